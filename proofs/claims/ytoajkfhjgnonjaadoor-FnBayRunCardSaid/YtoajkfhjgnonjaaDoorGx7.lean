-- Printed by wip/gen.py of this session's repo, over the kit's print.py. Not trusted: Lean checks it.
import Derived.Test.YtoajkfhjgnonjaaDoorGx0
import Derived.Test.YtoajkfhjgnonjaaDoorSq
import Derived.Test.YtoajkfhjgnonjaaDoorGx1
import Derived.Test.YtoajkfhjgnonjaaDoorGx2
import Derived.Test.YtoajkfhjgnonjaaDoorGx6
namespace Go.Proofs.YtoajkfhjgnonjaaDoor.G
open Go.RowKit Go.Proofs.YtoajkfhjgnonjaaDoorW.PrintWords Go.Proofs.YtoajkfhjgnonjaaDoorW.PrintLast Go.Proofs.YtoajkfhjgnonjaaDoorW.PrintMore Go.Proofs.YtoajkfhjgnonjaaDoor.Sq
attribute [local go_sem] max2_int min2_int max_two min_two max_three min_three max_four min_four   -- for this text's walks alone
set_option linter.unusedVariables false
set_option linter.unusedSimpArgs false

/-! ### impl_BayMay: function 55 -/
def impl_BayMay.may (a b c d : Bool) (n : Nat) : Bool :=
 match n with
 | 0 => a
 | 1 => !a
 | 2 => b && !a
 | 3 => !b && !a
 | 4 => c && !a
 | 5 => !c && !a && !d
 | 6 => d
 | 7 => !d && !c
 | _ => false
def impl_BayMay.f (a0_0 : Bool) (a0_1 : Bool) (a0_2 : Bool) (a0_3 : Bool) (a1 : Int) : Option (Bool) := if 0 ≤ a1 ∧ a1 ≤ 7 then some (impl_BayMay.may a0_0 a0_1 a0_2 a0_3 a1.toNat) else some false
theorem impl_BayMay.cell {W w1 : World} (hb : Below W.heap.size W w1) : (∀ b o, b < W.heap.size → w1.cell? ⟨b, o, none⟩ = W.cell? ⟨b, o, none⟩) ∧ (∀ b o, b < W.heap.size → w1.frozen? ⟨b, o, none⟩ = W.frozen? ⟨b, o, none⟩) :=
 ⟨fun b o h => hb.cell (p := ⟨b, o, none⟩) h, fun b o h => hb.frozen (p := ⟨b, o, none⟩) h⟩
set_option maxHeartbeats 2000000 in
set_option maxRecDepth 100000 in
theorem impl_BayMay.at0 (a0_0 : Bool) (a0_1 : Bool) (a0_2 : Bool) (a0_3 : Bool) (w : World) :
  Calls Tryd.prog 55 #[.agg #[.bool a0_0, .bool a0_1, .bool a0_2, .bool a0_3], .int .i64 0] w fun e w' => e = .returned (.bool (impl_BayMay.may a0_0 a0_1 a0_2 a0_3 0)) ∧ Below w.heap.size w w' := by
 have b1 : ∀ n, impl_Bay_number.bn true n = n := fun _ => rfl
 have b0 : ∀ n, impl_Bay_number.bn false n = 0 := fun _ => rfl
 have q0 : Go.bits .and .i64 0 1 = 0 := by decide
 have q1 : Go.bits .and .i64 1 1 = 1 := by decide
 have q2 : Go.bits .and .i64 2 1 = 0 := by decide
 have q3 : Go.bits .and .i64 3 1 = 1 := by decide
 have q4 : Go.bits .and .i64 4 1 = 0 := by decide
 have q5 : Go.bits .and .i64 5 1 = 1 := by decide
 have q6 : Go.bits .and .i64 6 1 = 0 := by decide
 have q7 : Go.bits .and .i64 7 1 = 1 := by decide
 have q8 : Go.bits .and .i64 8 1 = 0 := by decide
 have q9 : Go.bits .and .i64 9 1 = 1 := by decide
 have q10 : Go.bits .and .i64 10 1 = 0 := by decide
 have q11 : Go.bits .and .i64 11 1 = 1 := by decide
 have q12 : Go.bits .and .i64 12 1 = 0 := by decide
 have q13 : Go.bits .and .i64 13 1 = 1 := by decide
 have q14 : Go.bits .and .i64 14 1 = 0 := by decide
 have q15 : Go.bits .and .i64 15 1 = 1 := by decide
 cases a0_0 <;> cases a0_1 <;> cases a0_2 <;> cases a0_3
 all_goals
  go_enter Tryd.func55, Tryd.ntmps55
  go_wp2_with (go_at_call 104; refine (impl_Bay_number.calls _ _ _ _ _ _ rfl).mono ?_; rintro e w1 ⟨rfl, hb1⟩; obtain ⟨hc1, hf1⟩ := impl_BayMay.cell hb1)
  go_ret
  refine ⟨rfl, ?_⟩
  refine Below.trans ((Below.refl _ _).alloc (Nat.le_refl _) _) (hb1.mono (by simp))
set_option maxHeartbeats 2000000 in
set_option maxRecDepth 100000 in
theorem impl_BayMay.at1 (a0_0 : Bool) (a0_1 : Bool) (a0_2 : Bool) (a0_3 : Bool) (w : World) :
  Calls Tryd.prog 55 #[.agg #[.bool a0_0, .bool a0_1, .bool a0_2, .bool a0_3], .int .i64 1] w fun e w' => e = .returned (.bool (impl_BayMay.may a0_0 a0_1 a0_2 a0_3 1)) ∧ Below w.heap.size w w' := by
 have b1 : ∀ n, impl_Bay_number.bn true n = n := fun _ => rfl
 have b0 : ∀ n, impl_Bay_number.bn false n = 0 := fun _ => rfl
 have q0 : Go.bits .and .i64 0 1 = 0 := by decide
 have q1 : Go.bits .and .i64 1 1 = 1 := by decide
 have q2 : Go.bits .and .i64 2 1 = 0 := by decide
 have q3 : Go.bits .and .i64 3 1 = 1 := by decide
 have q4 : Go.bits .and .i64 4 1 = 0 := by decide
 have q5 : Go.bits .and .i64 5 1 = 1 := by decide
 have q6 : Go.bits .and .i64 6 1 = 0 := by decide
 have q7 : Go.bits .and .i64 7 1 = 1 := by decide
 have q8 : Go.bits .and .i64 8 1 = 0 := by decide
 have q9 : Go.bits .and .i64 9 1 = 1 := by decide
 have q10 : Go.bits .and .i64 10 1 = 0 := by decide
 have q11 : Go.bits .and .i64 11 1 = 1 := by decide
 have q12 : Go.bits .and .i64 12 1 = 0 := by decide
 have q13 : Go.bits .and .i64 13 1 = 1 := by decide
 have q14 : Go.bits .and .i64 14 1 = 0 := by decide
 have q15 : Go.bits .and .i64 15 1 = 1 := by decide
 cases a0_0 <;> cases a0_1 <;> cases a0_2 <;> cases a0_3
 all_goals
  go_enter Tryd.func55, Tryd.ntmps55
  go_wp2_with (go_at_call 104; refine (impl_Bay_number.calls _ _ _ _ _ _ rfl).mono ?_; rintro e w1 ⟨rfl, hb1⟩; obtain ⟨hc1, hf1⟩ := impl_BayMay.cell hb1)
  go_ret
  refine ⟨rfl, ?_⟩
  refine Below.trans ((Below.refl _ _).alloc (Nat.le_refl _) _) (hb1.mono (by simp))
set_option maxHeartbeats 2000000 in
set_option maxRecDepth 100000 in
theorem impl_BayMay.at2 (a0_0 : Bool) (a0_1 : Bool) (a0_2 : Bool) (a0_3 : Bool) (w : World) :
  Calls Tryd.prog 55 #[.agg #[.bool a0_0, .bool a0_1, .bool a0_2, .bool a0_3], .int .i64 2] w fun e w' => e = .returned (.bool (impl_BayMay.may a0_0 a0_1 a0_2 a0_3 2)) ∧ Below w.heap.size w w' := by
 have b1 : ∀ n, impl_Bay_number.bn true n = n := fun _ => rfl
 have b0 : ∀ n, impl_Bay_number.bn false n = 0 := fun _ => rfl
 have q0 : Go.bits .and .i64 0 1 = 0 := by decide
 have q1 : Go.bits .and .i64 1 1 = 1 := by decide
 have q2 : Go.bits .and .i64 2 1 = 0 := by decide
 have q3 : Go.bits .and .i64 3 1 = 1 := by decide
 have q4 : Go.bits .and .i64 4 1 = 0 := by decide
 have q5 : Go.bits .and .i64 5 1 = 1 := by decide
 have q6 : Go.bits .and .i64 6 1 = 0 := by decide
 have q7 : Go.bits .and .i64 7 1 = 1 := by decide
 cases a0_0 <;> cases a0_1 <;> cases a0_2 <;> cases a0_3
 all_goals
  go_enter Tryd.func55, Tryd.ntmps55
  go_wp2_with (go_at_call 104; refine (impl_Bay_number.calls _ _ _ _ _ _ rfl).mono ?_; rintro e w1 ⟨rfl, hb1⟩; obtain ⟨hc1, hf1⟩ := impl_BayMay.cell hb1)
  go_ret
  refine ⟨rfl, ?_⟩
  refine Below.trans ((Below.refl _ _).alloc (Nat.le_refl _) _) (hb1.mono (by simp))
set_option maxHeartbeats 2000000 in
set_option maxRecDepth 100000 in
theorem impl_BayMay.at3 (a0_0 : Bool) (a0_1 : Bool) (a0_2 : Bool) (a0_3 : Bool) (w : World) :
  Calls Tryd.prog 55 #[.agg #[.bool a0_0, .bool a0_1, .bool a0_2, .bool a0_3], .int .i64 3] w fun e w' => e = .returned (.bool (impl_BayMay.may a0_0 a0_1 a0_2 a0_3 3)) ∧ Below w.heap.size w w' := by
 have b1 : ∀ n, impl_Bay_number.bn true n = n := fun _ => rfl
 have b0 : ∀ n, impl_Bay_number.bn false n = 0 := fun _ => rfl
 have q0 : Go.bits .and .i64 0 1 = 0 := by decide
 have q1 : Go.bits .and .i64 1 1 = 1 := by decide
 have q2 : Go.bits .and .i64 2 1 = 0 := by decide
 have q3 : Go.bits .and .i64 3 1 = 1 := by decide
 have q4 : Go.bits .and .i64 4 1 = 0 := by decide
 have q5 : Go.bits .and .i64 5 1 = 1 := by decide
 have q6 : Go.bits .and .i64 6 1 = 0 := by decide
 have q7 : Go.bits .and .i64 7 1 = 1 := by decide
 cases a0_0 <;> cases a0_1 <;> cases a0_2 <;> cases a0_3
 all_goals
  go_enter Tryd.func55, Tryd.ntmps55
  go_wp2_with (go_at_call 104; refine (impl_Bay_number.calls _ _ _ _ _ _ rfl).mono ?_; rintro e w1 ⟨rfl, hb1⟩; obtain ⟨hc1, hf1⟩ := impl_BayMay.cell hb1)
  go_ret
  refine ⟨rfl, ?_⟩
  refine Below.trans ((Below.refl _ _).alloc (Nat.le_refl _) _) (hb1.mono (by simp))
set_option maxHeartbeats 2000000 in
set_option maxRecDepth 100000 in
theorem impl_BayMay.at4 (a0_0 : Bool) (a0_1 : Bool) (a0_2 : Bool) (a0_3 : Bool) (w : World) :
  Calls Tryd.prog 55 #[.agg #[.bool a0_0, .bool a0_1, .bool a0_2, .bool a0_3], .int .i64 4] w fun e w' => e = .returned (.bool (impl_BayMay.may a0_0 a0_1 a0_2 a0_3 4)) ∧ Below w.heap.size w w' := by
 have b1 : ∀ n, impl_Bay_number.bn true n = n := fun _ => rfl
 have b0 : ∀ n, impl_Bay_number.bn false n = 0 := fun _ => rfl
 have q0 : Go.bits .and .i64 0 1 = 0 := by decide
 have q1 : Go.bits .and .i64 1 1 = 1 := by decide
 have q2 : Go.bits .and .i64 2 1 = 0 := by decide
 have q3 : Go.bits .and .i64 3 1 = 1 := by decide
 cases a0_0 <;> cases a0_1 <;> cases a0_2 <;> cases a0_3
 all_goals
  go_enter Tryd.func55, Tryd.ntmps55
  go_wp2_with (go_at_call 104; refine (impl_Bay_number.calls _ _ _ _ _ _ rfl).mono ?_; rintro e w1 ⟨rfl, hb1⟩; obtain ⟨hc1, hf1⟩ := impl_BayMay.cell hb1)
  go_ret
  refine ⟨rfl, ?_⟩
  refine Below.trans ((Below.refl _ _).alloc (Nat.le_refl _) _) (hb1.mono (by simp))
set_option maxHeartbeats 2000000 in
set_option maxRecDepth 100000 in
theorem impl_BayMay.at5 (a0_0 : Bool) (a0_1 : Bool) (a0_2 : Bool) (a0_3 : Bool) (w : World) :
  Calls Tryd.prog 55 #[.agg #[.bool a0_0, .bool a0_1, .bool a0_2, .bool a0_3], .int .i64 5] w fun e w' => e = .returned (.bool (impl_BayMay.may a0_0 a0_1 a0_2 a0_3 5)) ∧ Below w.heap.size w w' := by
 have b1 : ∀ n, impl_Bay_number.bn true n = n := fun _ => rfl
 have b0 : ∀ n, impl_Bay_number.bn false n = 0 := fun _ => rfl
 have q0 : Go.bits .and .i64 0 1 = 0 := by decide
 have q1 : Go.bits .and .i64 1 1 = 1 := by decide
 have q2 : Go.bits .and .i64 2 1 = 0 := by decide
 have q3 : Go.bits .and .i64 3 1 = 1 := by decide
 cases a0_0 <;> cases a0_1 <;> cases a0_2 <;> cases a0_3
 all_goals
  go_enter Tryd.func55, Tryd.ntmps55
  go_wp2_with (go_at_call 104; refine (impl_Bay_number.calls _ _ _ _ _ _ rfl).mono ?_; rintro e w1 ⟨rfl, hb1⟩; obtain ⟨hc1, hf1⟩ := impl_BayMay.cell hb1)
  go_ret
  refine ⟨rfl, ?_⟩
  refine Below.trans ((Below.refl _ _).alloc (Nat.le_refl _) _) (hb1.mono (by simp))
set_option maxHeartbeats 2000000 in
set_option maxRecDepth 100000 in
theorem impl_BayMay.at6 (a0_0 : Bool) (a0_1 : Bool) (a0_2 : Bool) (a0_3 : Bool) (w : World) :
  Calls Tryd.prog 55 #[.agg #[.bool a0_0, .bool a0_1, .bool a0_2, .bool a0_3], .int .i64 6] w fun e w' => e = .returned (.bool (impl_BayMay.may a0_0 a0_1 a0_2 a0_3 6)) ∧ Below w.heap.size w w' := by
 have b1 : ∀ n, impl_Bay_number.bn true n = n := fun _ => rfl
 have b0 : ∀ n, impl_Bay_number.bn false n = 0 := fun _ => rfl
 have q0 : Go.bits .and .i64 0 1 = 0 := by decide
 have q1 : Go.bits .and .i64 1 1 = 1 := by decide
 cases a0_0 <;> cases a0_1 <;> cases a0_2 <;> cases a0_3
 all_goals
  go_enter Tryd.func55, Tryd.ntmps55
  go_wp2_with (go_at_call 104; refine (impl_Bay_number.calls _ _ _ _ _ _ rfl).mono ?_; rintro e w1 ⟨rfl, hb1⟩; obtain ⟨hc1, hf1⟩ := impl_BayMay.cell hb1)
  go_ret
  refine ⟨rfl, ?_⟩
  refine Below.trans ((Below.refl _ _).alloc (Nat.le_refl _) _) (hb1.mono (by simp))
set_option maxHeartbeats 2000000 in
set_option maxRecDepth 100000 in
theorem impl_BayMay.at7 (a0_0 : Bool) (a0_1 : Bool) (a0_2 : Bool) (a0_3 : Bool) (w : World) :
  Calls Tryd.prog 55 #[.agg #[.bool a0_0, .bool a0_1, .bool a0_2, .bool a0_3], .int .i64 7] w fun e w' => e = .returned (.bool (impl_BayMay.may a0_0 a0_1 a0_2 a0_3 7)) ∧ Below w.heap.size w w' := by
 have b1 : ∀ n, impl_Bay_number.bn true n = n := fun _ => rfl
 have b0 : ∀ n, impl_Bay_number.bn false n = 0 := fun _ => rfl
 have q0 : Go.bits .and .i64 0 1 = 0 := by decide
 have q1 : Go.bits .and .i64 1 1 = 1 := by decide
 cases a0_0 <;> cases a0_1 <;> cases a0_2 <;> cases a0_3
 all_goals
  go_enter Tryd.func55, Tryd.ntmps55
  go_wp2_with (go_at_call 104; refine (impl_Bay_number.calls _ _ _ _ _ _ rfl).mono ?_; rintro e w1 ⟨rfl, hb1⟩; obtain ⟨hc1, hf1⟩ := impl_BayMay.cell hb1)
  go_ret
  refine ⟨rfl, ?_⟩
  refine Below.trans ((Below.refl _ _).alloc (Nat.le_refl _) _) (hb1.mono (by simp))
set_option maxHeartbeats 2000000 in
set_option maxRecDepth 100000 in
theorem impl_BayMay.out (a0_0 : Bool) (a0_1 : Bool) (a0_2 : Bool) (a0_3 : Bool) (a1 : Int) (w : World) (h : ¬ (0 ≤ a1 ∧ a1 ≤ 7)) :
  Calls Tryd.prog 55 #[.agg #[.bool a0_0, .bool a0_1, .bool a0_2, .bool a0_3], .int .i64 a1] w fun e w' => e = .returned (.bool false) ∧ Below w.heap.size w w' := by
 by_cases h0 : 0 ≤ a1
 ·have h1 : ¬ (a1 ≤ 7) := fun q => h ⟨h0, q⟩
  clear h
  go_enter Tryd.func55, Tryd.ntmps55
  go_wp2
  go_ret
  refine ⟨rfl, ?_⟩
  repeat (first | exact Below.refl _ _ | refine Below.setCell ?_ (by simp) _ | refine Below.alloc ?_ (by simp) _)
 ·clear h
  go_enter Tryd.func55, Tryd.ntmps55
  go_wp2
  go_ret
  refine ⟨rfl, ?_⟩
  repeat (first | exact Below.refl _ _ | refine Below.setCell ?_ (by simp) _ | refine Below.alloc ?_ (by simp) _)
theorem impl_BayMay.calls (a0_0 : Bool) (a0_1 : Bool) (a0_2 : Bool) (a0_3 : Bool) (a1 : Int) (r : Bool) (w : World) (h : impl_BayMay.f a0_0 a0_1 a0_2 a0_3 a1 = some r) :
  Calls Tryd.prog 55 #[.agg #[.bool a0_0, .bool a0_1, .bool a0_2, .bool a0_3], .int .i64 a1] w fun e w' => e = .returned (.bool r) ∧ Below w.heap.size w w' := by
 unfold impl_BayMay.f at h
 by_cases hb : 0 ≤ a1 ∧ a1 ≤ 7
 ·rw [if_pos hb] at h
  obtain rfl := Option.some.inj h
  have h8 : a1 = 0 ∨ a1 = 1 ∨ a1 = 2 ∨ a1 = 3 ∨ a1 = 4 ∨ a1 = 5 ∨ a1 = 6 ∨ a1 = 7 := by omega
  rcases h8 with rfl | rfl | rfl | rfl | rfl | rfl | rfl | rfl
  ·exact impl_BayMay.at0 a0_0 a0_1 a0_2 a0_3 w
  ·exact impl_BayMay.at1 a0_0 a0_1 a0_2 a0_3 w
  ·exact impl_BayMay.at2 a0_0 a0_1 a0_2 a0_3 w
  ·exact impl_BayMay.at3 a0_0 a0_1 a0_2 a0_3 w
  ·exact impl_BayMay.at4 a0_0 a0_1 a0_2 a0_3 w
  ·exact impl_BayMay.at5 a0_0 a0_1 a0_2 a0_3 w
  ·exact impl_BayMay.at6 a0_0 a0_1 a0_2 a0_3 w
  ·exact impl_BayMay.at7 a0_0 a0_1 a0_2 a0_3 w
 ·rw [if_neg hb] at h
  obtain rfl := Option.some.inj h
  exact impl_BayMay.out a0_0 a0_1 a0_2 a0_3 a1 w hb

/-! ### spec_l9Part: function 105 -/
def spec_l9Part.f (a0_0 : Bool) (a0_1 : Bool) (a0_2 : Bool) (a0_3 : Bool) (a1 : Int) : Option (Bool) := if a1 = 0 then (some a0_0) else (if a1 = 1 then (some a0_1) else (if a1 = 2 then (some a0_2) else (some a0_3)))
set_option maxHeartbeats 8000000 in
set_option maxRecDepth 100000 in
theorem spec_l9Part.calls (a0_0 : Bool) (a0_1 : Bool) (a0_2 : Bool) (a0_3 : Bool) (a1 : Int) (r : Bool) (w : World) (h : spec_l9Part.f a0_0 a0_1 a0_2 a0_3 a1 = some r) :
  Calls Tryd.prog 105 #[.agg #[.bool a0_0, .bool a0_1, .bool a0_2, .bool a0_3], .int .i64 a1] w fun e w' => e = .returned (.bool r) ∧ Below w.heap.size w w' := by
 have hu59 := Tryd.underlying59
 have HB := Aside0.mk (Below.refl w.heap.size w)
 have H : (if a1 = 0 then (some a0_0) else (if a1 = 1 then (some a0_1) else (if a1 = 2 then (some a0_2) else (some a0_3)))) = some r := h
 clear h
 by_cases c3 : a1 = 0
 ·rw [if_pos c3] at H
  have c3b0 : (a1 == 0) = true := beq_iff_eq.mpr c3
  have c3b1 : (a1 != 0) = false := bne_eq_false_iff_eq.mpr c3
  clear c3
  obtain rfl := Option.some.inj H
  go_enter Tryd.func105, Tryd.ntmps105
  go_wp2_with (first | ((with_reducible refine gate_dst (N := 2) rfl ?_); refine box_event ?hg (N := 2) ?hd (cs := #[.bool a0_0, .bool a0_1, .bool a0_2, .bool a0_3]) (t := 59) ?hr ?_; (case hd => rfl); (case hg => rfl); (case hr => first | (go_simp; done) | (go_simp; rfl)); intro gb336 hg w4 hbox hb; have n0_ := Aside0.mk (below_step bw hb); have n1_ := Aside0.mk (hbox); have n2_ := Aside0.mk ((by rw [hg]; exact (below_size bw) : w.heap.size ≤ gb336)); have n3_ := Aside0.mk ((by rw [hg]; exact (below_size bw) : w.heap.size ≤ gb336)); clear HB; have HB := n0_; have BK336 := n1_; have GW336 := n2_; have GE336 := n3_; clear n0_ n1_ n2_ n3_; clear hb hbox hg; have hcz5_0 : w4.cell? ⟨gb336, 0, none⟩ = some (.bool a0_0) := (blk_cell BK336.out 0).trans rfl; have hcz5_1 : w4.cell? ⟨gb336, 1, none⟩ = some (.bool a0_1) := (blk_cell BK336.out 1).trans rfl; have hcz5_2 : w4.cell? ⟨gb336, 2, none⟩ = some (.bool a0_2) := (blk_cell BK336.out 2).trans rfl; have hcz5_3 : w4.cell? ⟨gb336, 3, none⟩ = some (.bool a0_3) := (blk_cell BK336.out 3).trans rfl; have hfz5_0 := blk_frozen BK336.out 0; have hfz5_1 := blk_frozen BK336.out 1; have hfz5_2 := blk_frozen BK336.out 2; have hfz5_3 := blk_frozen BK336.out 3))
  go_ret
  exact ⟨by first | rfl | (simp [errW_none, errW_some] <;> rfl) | (simp [*, errW_none, errW_some] <;> rfl), bw⟩
 ·rw [if_neg c3] at H
  have c3b0 : (a1 == 0) = false := beq_eq_false_iff_ne.mpr c3
  have c3b1 : (a1 != 0) = true := bne_iff_ne.mpr c3
  by_cases c6 : a1 = 1
  ·rw [if_pos c6] at H
   have c6b0 : (a1 == 1) = true := beq_iff_eq.mpr c6
   have c6b1 : (a1 != 1) = false := bne_eq_false_iff_eq.mpr c6
   clear c6
   obtain rfl := Option.some.inj H
   go_enter Tryd.func105, Tryd.ntmps105
   go_wp2_with (first | ((with_reducible refine gate_dst (N := 2) rfl ?_); refine box_event ?hg (N := 2) ?hd (cs := #[.bool a0_0, .bool a0_1, .bool a0_2, .bool a0_3]) (t := 59) ?hr ?_; (case hd => rfl); (case hg => rfl); (case hr => first | (go_simp; done) | (go_simp; rfl)); intro gb336 hg w7 hbox hb; have n0_ := Aside0.mk (below_step bw hb); have n1_ := Aside0.mk (hbox); have n2_ := Aside0.mk ((by rw [hg]; exact (below_size bw) : w.heap.size ≤ gb336)); have n3_ := Aside0.mk ((by rw [hg]; exact (below_size bw) : w.heap.size ≤ gb336)); clear HB; have HB := n0_; have BK336 := n1_; have GW336 := n2_; have GE336 := n3_; clear n0_ n1_ n2_ n3_; clear hb hbox hg; have hcz8_0 : w7.cell? ⟨gb336, 0, none⟩ = some (.bool a0_0) := (blk_cell BK336.out 0).trans rfl; have hcz8_1 : w7.cell? ⟨gb336, 1, none⟩ = some (.bool a0_1) := (blk_cell BK336.out 1).trans rfl; have hcz8_2 : w7.cell? ⟨gb336, 2, none⟩ = some (.bool a0_2) := (blk_cell BK336.out 2).trans rfl; have hcz8_3 : w7.cell? ⟨gb336, 3, none⟩ = some (.bool a0_3) := (blk_cell BK336.out 3).trans rfl; have hfz8_0 := blk_frozen BK336.out 0; have hfz8_1 := blk_frozen BK336.out 1; have hfz8_2 := blk_frozen BK336.out 2; have hfz8_3 := blk_frozen BK336.out 3))
   go_ret
   exact ⟨by first | rfl | (simp [errW_none, errW_some] <;> rfl) | (simp [*, errW_none, errW_some] <;> rfl), bw⟩
  ·rw [if_neg c6] at H
   have c6b0 : (a1 == 1) = false := beq_eq_false_iff_ne.mpr c6
   have c6b1 : (a1 != 1) = true := bne_iff_ne.mpr c6
   by_cases c9 : a1 = 2
   ·rw [if_pos c9] at H
    have c9b0 : (a1 == 2) = true := beq_iff_eq.mpr c9
    have c9b1 : (a1 != 2) = false := bne_eq_false_iff_eq.mpr c9
    clear c9
    obtain rfl := Option.some.inj H
    go_enter Tryd.func105, Tryd.ntmps105
    go_wp2_with (first | ((with_reducible refine gate_dst (N := 2) rfl ?_); refine box_event ?hg (N := 2) ?hd (cs := #[.bool a0_0, .bool a0_1, .bool a0_2, .bool a0_3]) (t := 59) ?hr ?_; (case hd => rfl); (case hg => rfl); (case hr => first | (go_simp; done) | (go_simp; rfl)); intro gb336 hg w10 hbox hb; have n0_ := Aside0.mk (below_step bw hb); have n1_ := Aside0.mk (hbox); have n2_ := Aside0.mk ((by rw [hg]; exact (below_size bw) : w.heap.size ≤ gb336)); have n3_ := Aside0.mk ((by rw [hg]; exact (below_size bw) : w.heap.size ≤ gb336)); clear HB; have HB := n0_; have BK336 := n1_; have GW336 := n2_; have GE336 := n3_; clear n0_ n1_ n2_ n3_; clear hb hbox hg; have hcz11_0 : w10.cell? ⟨gb336, 0, none⟩ = some (.bool a0_0) := (blk_cell BK336.out 0).trans rfl; have hcz11_1 : w10.cell? ⟨gb336, 1, none⟩ = some (.bool a0_1) := (blk_cell BK336.out 1).trans rfl; have hcz11_2 : w10.cell? ⟨gb336, 2, none⟩ = some (.bool a0_2) := (blk_cell BK336.out 2).trans rfl; have hcz11_3 : w10.cell? ⟨gb336, 3, none⟩ = some (.bool a0_3) := (blk_cell BK336.out 3).trans rfl; have hfz11_0 := blk_frozen BK336.out 0; have hfz11_1 := blk_frozen BK336.out 1; have hfz11_2 := blk_frozen BK336.out 2; have hfz11_3 := blk_frozen BK336.out 3))
    go_ret
    exact ⟨by first | rfl | (simp [errW_none, errW_some] <;> rfl) | (simp [*, errW_none, errW_some] <;> rfl), bw⟩
   ·rw [if_neg c9] at H
    have c9b0 : (a1 == 2) = false := beq_eq_false_iff_ne.mpr c9
    have c9b1 : (a1 != 2) = true := bne_iff_ne.mpr c9
    obtain rfl := Option.some.inj H
    go_enter Tryd.func105, Tryd.ntmps105
    go_wp2_with (first | ((with_reducible refine gate_dst (N := 2) rfl ?_); refine box_event ?hg (N := 2) ?hd (cs := #[.bool a0_0, .bool a0_1, .bool a0_2, .bool a0_3]) (t := 59) ?hr ?_; (case hd => rfl); (case hg => rfl); (case hr => first | (go_simp; done) | (go_simp; rfl)); intro gb336 hg w12 hbox hb; have n0_ := Aside0.mk (below_step bw hb); have n1_ := Aside0.mk (hbox); have n2_ := Aside0.mk ((by rw [hg]; exact (below_size bw) : w.heap.size ≤ gb336)); have n3_ := Aside0.mk ((by rw [hg]; exact (below_size bw) : w.heap.size ≤ gb336)); clear HB; have HB := n0_; have BK336 := n1_; have GW336 := n2_; have GE336 := n3_; clear n0_ n1_ n2_ n3_; clear hb hbox hg; have hcz13_0 : w12.cell? ⟨gb336, 0, none⟩ = some (.bool a0_0) := (blk_cell BK336.out 0).trans rfl; have hcz13_1 : w12.cell? ⟨gb336, 1, none⟩ = some (.bool a0_1) := (blk_cell BK336.out 1).trans rfl; have hcz13_2 : w12.cell? ⟨gb336, 2, none⟩ = some (.bool a0_2) := (blk_cell BK336.out 2).trans rfl; have hcz13_3 : w12.cell? ⟨gb336, 3, none⟩ = some (.bool a0_3) := (blk_cell BK336.out 3).trans rfl; have hfz13_0 := blk_frozen BK336.out 0; have hfz13_1 := blk_frozen BK336.out 1; have hfz13_2 := blk_frozen BK336.out 2; have hfz13_3 := blk_frozen BK336.out 3))
    go_ret
    exact ⟨by first | rfl | (simp [errW_none, errW_some] <;> rfl) | (simp [*, errW_none, errW_some] <;> rfl), bw⟩

/-! ### spec_BayMay: function 56 -/
def spec_BayMay.may (a b c d : Bool) (n : Nat) : Bool :=
 match n with
 | 0 => a
 | 1 => !a
 | 2 => b && !a
 | 3 => !b && !a
 | 4 => c && !a
 | 5 => !c && !a && !d
 | 6 => d
 | 7 => !d && !c
 | _ => false
def spec_BayMay.f (a0_0 : Bool) (a0_1 : Bool) (a0_2 : Bool) (a0_3 : Bool) (a1 : Int) : Option (Bool) := if 0 ≤ a1 ∧ a1 ≤ 7 then some (spec_BayMay.may a0_0 a0_1 a0_2 a0_3 a1.toNat) else some false
set_option maxHeartbeats 2000000 in
set_option maxRecDepth 100000 in
theorem spec_BayMay.at0 (a0_0 : Bool) (a0_1 : Bool) (a0_2 : Bool) (a0_3 : Bool) (w : World) :
  Calls Tryd.prog 56 #[.agg #[.bool a0_0, .bool a0_1, .bool a0_2, .bool a0_3], .int .i64 0] w fun e w' => e = .returned (.bool (spec_BayMay.may a0_0 a0_1 a0_2 a0_3 0)) ∧ Below w.heap.size w w' := by
 cases a0_0 <;> cases a0_1 <;> cases a0_2 <;> cases a0_3
 all_goals
  go_enter Tryd.func56, Tryd.ntmps56
  go_wp2
  go_ret
  refine ⟨rfl, ?_⟩
  repeat (first | exact Below.refl _ _ | refine Below.setCell ?_ (by simp) _ | refine Below.alloc ?_ (by simp) _)
set_option maxHeartbeats 2000000 in
set_option maxRecDepth 100000 in
theorem spec_BayMay.at1 (a0_0 : Bool) (a0_1 : Bool) (a0_2 : Bool) (a0_3 : Bool) (w : World) :
  Calls Tryd.prog 56 #[.agg #[.bool a0_0, .bool a0_1, .bool a0_2, .bool a0_3], .int .i64 1] w fun e w' => e = .returned (.bool (spec_BayMay.may a0_0 a0_1 a0_2 a0_3 1)) ∧ Below w.heap.size w w' := by
 cases a0_0 <;> cases a0_1 <;> cases a0_2 <;> cases a0_3
 all_goals
  go_enter Tryd.func56, Tryd.ntmps56
  go_wp2
  go_ret
  refine ⟨rfl, ?_⟩
  repeat (first | exact Below.refl _ _ | refine Below.setCell ?_ (by simp) _ | refine Below.alloc ?_ (by simp) _)
set_option maxHeartbeats 2000000 in
set_option maxRecDepth 100000 in
theorem spec_BayMay.at2 (a0_0 : Bool) (a0_1 : Bool) (a0_2 : Bool) (a0_3 : Bool) (w : World) :
  Calls Tryd.prog 56 #[.agg #[.bool a0_0, .bool a0_1, .bool a0_2, .bool a0_3], .int .i64 2] w fun e w' => e = .returned (.bool (spec_BayMay.may a0_0 a0_1 a0_2 a0_3 2)) ∧ Below w.heap.size w w' := by
 cases a0_0 <;> cases a0_1 <;> cases a0_2 <;> cases a0_3
 all_goals
  go_enter Tryd.func56, Tryd.ntmps56
  go_wp2
  go_ret
  refine ⟨rfl, ?_⟩
  repeat (first | exact Below.refl _ _ | refine Below.setCell ?_ (by simp) _ | refine Below.alloc ?_ (by simp) _)
set_option maxHeartbeats 2000000 in
set_option maxRecDepth 100000 in
theorem spec_BayMay.at3 (a0_0 : Bool) (a0_1 : Bool) (a0_2 : Bool) (a0_3 : Bool) (w : World) :
  Calls Tryd.prog 56 #[.agg #[.bool a0_0, .bool a0_1, .bool a0_2, .bool a0_3], .int .i64 3] w fun e w' => e = .returned (.bool (spec_BayMay.may a0_0 a0_1 a0_2 a0_3 3)) ∧ Below w.heap.size w w' := by
 cases a0_0 <;> cases a0_1 <;> cases a0_2 <;> cases a0_3
 all_goals
  go_enter Tryd.func56, Tryd.ntmps56
  go_wp2
  go_ret
  refine ⟨rfl, ?_⟩
  repeat (first | exact Below.refl _ _ | refine Below.setCell ?_ (by simp) _ | refine Below.alloc ?_ (by simp) _)
set_option maxHeartbeats 2000000 in
set_option maxRecDepth 100000 in
theorem spec_BayMay.at4 (a0_0 : Bool) (a0_1 : Bool) (a0_2 : Bool) (a0_3 : Bool) (w : World) :
  Calls Tryd.prog 56 #[.agg #[.bool a0_0, .bool a0_1, .bool a0_2, .bool a0_3], .int .i64 4] w fun e w' => e = .returned (.bool (spec_BayMay.may a0_0 a0_1 a0_2 a0_3 4)) ∧ Below w.heap.size w w' := by
 cases a0_0 <;> cases a0_1 <;> cases a0_2 <;> cases a0_3
 all_goals
  go_enter Tryd.func56, Tryd.ntmps56
  go_wp2
  go_ret
  refine ⟨rfl, ?_⟩
  repeat (first | exact Below.refl _ _ | refine Below.setCell ?_ (by simp) _ | refine Below.alloc ?_ (by simp) _)
set_option maxHeartbeats 2000000 in
set_option maxRecDepth 100000 in
theorem spec_BayMay.at5 (a0_0 : Bool) (a0_1 : Bool) (a0_2 : Bool) (a0_3 : Bool) (w : World) :
  Calls Tryd.prog 56 #[.agg #[.bool a0_0, .bool a0_1, .bool a0_2, .bool a0_3], .int .i64 5] w fun e w' => e = .returned (.bool (spec_BayMay.may a0_0 a0_1 a0_2 a0_3 5)) ∧ Below w.heap.size w w' := by
 cases a0_0 <;> cases a0_1 <;> cases a0_2 <;> cases a0_3
 all_goals
  go_enter Tryd.func56, Tryd.ntmps56
  go_wp2
  go_ret
  refine ⟨rfl, ?_⟩
  repeat (first | exact Below.refl _ _ | refine Below.setCell ?_ (by simp) _ | refine Below.alloc ?_ (by simp) _)
set_option maxHeartbeats 2000000 in
set_option maxRecDepth 100000 in
theorem spec_BayMay.at6 (a0_0 : Bool) (a0_1 : Bool) (a0_2 : Bool) (a0_3 : Bool) (w : World) :
  Calls Tryd.prog 56 #[.agg #[.bool a0_0, .bool a0_1, .bool a0_2, .bool a0_3], .int .i64 6] w fun e w' => e = .returned (.bool (spec_BayMay.may a0_0 a0_1 a0_2 a0_3 6)) ∧ Below w.heap.size w w' := by
 cases a0_0 <;> cases a0_1 <;> cases a0_2 <;> cases a0_3
 all_goals
  go_enter Tryd.func56, Tryd.ntmps56
  go_wp2
  go_ret
  refine ⟨rfl, ?_⟩
  repeat (first | exact Below.refl _ _ | refine Below.setCell ?_ (by simp) _ | refine Below.alloc ?_ (by simp) _)
set_option maxHeartbeats 2000000 in
set_option maxRecDepth 100000 in
theorem spec_BayMay.at7 (a0_0 : Bool) (a0_1 : Bool) (a0_2 : Bool) (a0_3 : Bool) (w : World) :
  Calls Tryd.prog 56 #[.agg #[.bool a0_0, .bool a0_1, .bool a0_2, .bool a0_3], .int .i64 7] w fun e w' => e = .returned (.bool (spec_BayMay.may a0_0 a0_1 a0_2 a0_3 7)) ∧ Below w.heap.size w w' := by
 cases a0_0 <;> cases a0_1 <;> cases a0_2 <;> cases a0_3
 all_goals
  go_enter Tryd.func56, Tryd.ntmps56
  go_wp2
  go_ret
  refine ⟨rfl, ?_⟩
  repeat (first | exact Below.refl _ _ | refine Below.setCell ?_ (by simp) _ | refine Below.alloc ?_ (by simp) _)
set_option maxHeartbeats 2000000 in
set_option maxRecDepth 100000 in
theorem spec_BayMay.out (a0_0 : Bool) (a0_1 : Bool) (a0_2 : Bool) (a0_3 : Bool) (a1 : Int) (w : World) (h : ¬ (0 ≤ a1 ∧ a1 ≤ 7)) :
  Calls Tryd.prog 56 #[.agg #[.bool a0_0, .bool a0_1, .bool a0_2, .bool a0_3], .int .i64 a1] w fun e w' => e = .returned (.bool false) ∧ Below w.heap.size w w' := by
 by_cases h0 : 0 ≤ a1
 ·have h1 : ¬ (a1 ≤ 7) := fun q => h ⟨h0, q⟩
  clear h
  go_enter Tryd.func56, Tryd.ntmps56
  go_wp2
  go_ret
  refine ⟨rfl, ?_⟩
  repeat (first | exact Below.refl _ _ | refine Below.setCell ?_ (by simp) _ | refine Below.alloc ?_ (by simp) _)
 ·clear h
  go_enter Tryd.func56, Tryd.ntmps56
  go_wp2
  go_ret
  refine ⟨rfl, ?_⟩
  repeat (first | exact Below.refl _ _ | refine Below.setCell ?_ (by simp) _ | refine Below.alloc ?_ (by simp) _)
theorem spec_BayMay.calls (a0_0 : Bool) (a0_1 : Bool) (a0_2 : Bool) (a0_3 : Bool) (a1 : Int) (r : Bool) (w : World) (h : spec_BayMay.f a0_0 a0_1 a0_2 a0_3 a1 = some r) :
  Calls Tryd.prog 56 #[.agg #[.bool a0_0, .bool a0_1, .bool a0_2, .bool a0_3], .int .i64 a1] w fun e w' => e = .returned (.bool r) ∧ Below w.heap.size w w' := by
 unfold spec_BayMay.f at h
 by_cases hb : 0 ≤ a1 ∧ a1 ≤ 7
 ·rw [if_pos hb] at h
  obtain rfl := Option.some.inj h
  have h8 : a1 = 0 ∨ a1 = 1 ∨ a1 = 2 ∨ a1 = 3 ∨ a1 = 4 ∨ a1 = 5 ∨ a1 = 6 ∨ a1 = 7 := by omega
  rcases h8 with rfl | rfl | rfl | rfl | rfl | rfl | rfl | rfl
  ·exact spec_BayMay.at0 a0_0 a0_1 a0_2 a0_3 w
  ·exact spec_BayMay.at1 a0_0 a0_1 a0_2 a0_3 w
  ·exact spec_BayMay.at2 a0_0 a0_1 a0_2 a0_3 w
  ·exact spec_BayMay.at3 a0_0 a0_1 a0_2 a0_3 w
  ·exact spec_BayMay.at4 a0_0 a0_1 a0_2 a0_3 w
  ·exact spec_BayMay.at5 a0_0 a0_1 a0_2 a0_3 w
  ·exact spec_BayMay.at6 a0_0 a0_1 a0_2 a0_3 w
  ·exact spec_BayMay.at7 a0_0 a0_1 a0_2 a0_3 w
 ·rw [if_neg hb] at h
  obtain rfl := Option.some.inj h
  exact spec_BayMay.out a0_0 a0_1 a0_2 a0_3 a1 w hb

/-! ### impl_bayOf: function 106 -/
def impl_bayOf.f (a0 : Int) : Option (Bool × Bool × Bool × Bool) := if 0 ≤ a0 ∧ a0 ≤ 15 then some (Go.bits .and .i64 a0 1 == 1, Go.bits .and .i64 (a0 / 2) 1 == 1, Go.bits .and .i64 (a0 / 4) 1 == 1, Go.bits .and .i64 (a0 / 8) 1 == 1) else none
set_option maxHeartbeats 2000000 in
set_option maxRecDepth 100000 in
theorem impl_bayOf.calls (a0 : Int) (r1 : Bool) (r2 : Bool) (r3 : Bool) (r4 : Bool) (w : World) (h : impl_bayOf.f a0 = some (r1, r2, r3, r4)) :
  Calls Tryd.prog 106 #[.int .i64 a0] w fun e w' => e = .returned (.agg #[.bool r1, .bool r2, .bool r3, .bool r4]) ∧ Below w.heap.size w w' := by
 unfold impl_bayOf.f at h
 split at h
 ·rename_i hb
  obtain ⟨hb0, hb1⟩ := hb
  simp only [Option.some.injEq, Prod.mk.injEq] at h
  obtain ⟨rfl, rfl, rfl, rfl⟩ := h
  go_enter Tryd.func106, Tryd.ntmps106
  go_wp2
  refine bodyPost_ret (v := .agg #[.bool (Go.bits .and .i64 a0 1 == 1), .bool (Go.bits .and .i64 (a0 / 2) 1 == 1), .bool (Go.bits .and .i64 (a0 / 4) 1 == 1), .bool (Go.bits .and .i64 (a0 / 8) 1 == 1)]) (by simp [results, Tryd.results106, go_sem]) rfl ⟨rfl, ?_⟩
  repeat (first | exact Below.refl _ _ | refine Below.setCell ?_ (by simp) _ | refine Below.alloc ?_ (by simp) _)
 ·cases h

/-! ### impl_BayDo: function 57 -/
def impl_BayDo.f (a0_0 : Bool) (a0_1 : Bool) (a0_2 : Bool) (a0_3 : Bool) (a1 : Int) : Option (Bool × Bool × Bool × Bool × Bool) := (impl_BayMay.f a0_0 a0_1 a0_2 a0_3 a1).bind fun t339 => (if t339 = true then ((impl_Bay_number.f a0_0 a0_1 a0_2 a0_3).bind fun t340 => (if 0 ≤ (wrap64 (Int.tdiv a1 2)) then ((impl_bayOf.f (Go.bits .xor .i64 t340 (shl .i64 1 (wrap64 (Int.tdiv a1 2))))).bind fun bt341 => (some (bt341.1, bt341.2.1, bt341.2.2.1, bt341.2.2.2, true))) else (none))) else (some (a0_0, a0_1, a0_2, a0_3, false)))
def impl_BayDo.T3 : Bool × List (List Nat × List Nat) := (true, [([], []), ([0], [0]), ([], []), ([2], [2]), ([3], [3]), ([1, 4], [1, 4]), ([5, 1], [5]), ([6, 6, 0, 1, 2, 3, 4, 5, 6], [6]), ([7, 0, 1, 2, 3, 4, 5, 6, 7], [])])
def impl_BayDo.B3 : List Nat := [0, 1, 0, 4, 12, 31, 63, 127, 255]
theorem impl_BayDo.tab3 : rtab .any (opsOf Tryd.f57 3) = impl_BayDo.T3 := by kernel_rfl
theorem impl_BayDo.bits3 : waitsOk impl_BayDo.T3.2 impl_BayDo.B3 = true := by kernel_rfl
set_option maxHeartbeats 8000000 in
set_option maxRecDepth 100000 in
theorem impl_BayDo.calls (a0_0 : Bool) (a0_1 : Bool) (a0_2 : Bool) (a0_3 : Bool) (a1 : Int) (r1 : Bool) (r2 : Bool) (r3 : Bool) (r4 : Bool) (r5 : Bool) (w : World) (h : impl_BayDo.f a0_0 a0_1 a0_2 a0_3 a1 = some (r1, r2, r3, r4, r5)) :
  Calls Tryd.prog 57 #[.agg #[.bool a0_0, .bool a0_1, .bool a0_2, .bool a0_3], .int .i64 a1] w fun e w' => e = .returned (.tuple #[.agg #[.bool r1, .bool r2, .bool r3, .bool r4], .bool r5]) ∧ Below w.heap.size w w' := by
 have hu59 := Tryd.underlying59
 have HB := Aside0.mk (Below.refl w.heap.size w)
 have H : ((impl_BayMay.f a0_0 a0_1 a0_2 a0_3 a1).bind fun t339 => (if t339 = true then ((impl_Bay_number.f a0_0 a0_1 a0_2 a0_3).bind fun t340 => (if 0 ≤ (wrap64 (Int.tdiv a1 2)) then ((impl_bayOf.f (Go.bits .xor .i64 t340 (shl .i64 1 (wrap64 (Int.tdiv a1 2))))).bind fun bt341 => (some (bt341.1, bt341.2.1, bt341.2.2.1, bt341.2.2.2, true))) else (none))) else (some (a0_0, a0_1, a0_2, a0_3, false)))) = some (r1, r2, r3, r4, r5) := h
 clear h
 replace H := Option.bind_eq_some_iff.mp H
 obtain ⟨t339, A30, H⟩ := H
 replace H : (if t339 = true then ((impl_Bay_number.f a0_0 a0_1 a0_2 a0_3).bind fun t340 => (if 0 ≤ (wrap64 (Int.tdiv a1 2)) then ((impl_bayOf.f (Go.bits .xor .i64 t340 (shl .i64 1 (wrap64 (Int.tdiv a1 2))))).bind fun bt341 => (some (bt341.1, bt341.2.1, bt341.2.2.1, bt341.2.2.2, true))) else (none))) else (some (a0_0, a0_1, a0_2, a0_3, false))) = some (r1, r2, r3, r4, r5) := H
 have A3 := Aside0.mk A30
 clear A30
 by_cases c4 : t339 = true
 ·subst c4
  have H1 : ((impl_Bay_number.f a0_0 a0_1 a0_2 a0_3).bind fun t340 => (if 0 ≤ (wrap64 (Int.tdiv a1 2)) then ((impl_bayOf.f (Go.bits .xor .i64 t340 (shl .i64 1 (wrap64 (Int.tdiv a1 2))))).bind fun bt341 => (some (bt341.1, bt341.2.1, bt341.2.2.1, bt341.2.2.2, true))) else (none))) = some (r1, r2, r3, r4, r5) := by rw [if_pos rfl] at H; exact H
  clear H
  have H := H1
  clear H1
  replace H := Option.bind_eq_some_iff.mp H
  obtain ⟨t340, A50, H⟩ := H
  replace H : (if 0 ≤ (wrap64 (Int.tdiv a1 2)) then ((impl_bayOf.f (Go.bits .xor .i64 t340 (shl .i64 1 (wrap64 (Int.tdiv a1 2))))).bind fun bt341 => (some (bt341.1, bt341.2.1, bt341.2.2.1, bt341.2.2.2, true))) else (none)) = some (r1, r2, r3, r4, r5) := H
  have A5 := Aside0.mk A50
  clear A50
  obtain ⟨ji6, hji6⟩ : ∃ j_ : Int, (wrap64 (Int.tdiv a1 2)) = j_ := ⟨_, rfl⟩
  replace H : (if 0 ≤ (ji6) then ((impl_bayOf.f (Go.bits .xor .i64 t340 (shl .i64 1 (ji6)))).bind fun bt341 => (some (bt341.1, bt341.2.1, bt341.2.2.1, bt341.2.2.2, true))) else (none)) = some (r1, r2, r3, r4, r5) := by first | (rw [hji6] at H; exact H) | (simp only [hji6] at H ⊢; exact H)
  (try rw [hji6] at A3)
  (try rw [hji6] at A5)
  have hji6w : (IntKind.i64.wrap (Int.tdiv a1 2)) = ji6 := (i64_w _).trans hji6
  by_cases c7 : 0 ≤ (ji6)
  ·rw [if_pos c7] at H
   have c7b0 := eq_true c7
   have c7b1 : decide (0 ≤ (ji6)) = true := decide_eq_true c7
   clear c7
   obtain ⟨ji8, hji8⟩ : ∃ j_ : Int, (shl .i64 1 (ji6)) = j_ := ⟨_, rfl⟩
   replace H : ((impl_bayOf.f (Go.bits .xor .i64 t340 (ji8))).bind fun bt341 => (some (bt341.1, bt341.2.1, bt341.2.2.1, bt341.2.2.2, true))) = some (r1, r2, r3, r4, r5) := by first | (rw [hji8] at H; exact H) | (simp only [hji8] at H ⊢; exact H)
   (try rw [hji8] at A3)
   (try rw [hji8] at A5)
   have hji8_ : (IntKind.i64.wrap (1 * 2 ^ min (ji6).toNat 64)) = ji8 := hji8
   have hji8z : (ji6) ≤ 64 → (IntKind.i64.wrap (1 * 2 ^ (ji6).toNat)) = ji8 := shl_small hji8
   have hji8u : (IntKind.i64.wrap (2 ^ min (ji6).toNat 64)) = ji8 := by have h_ := hji8_; rw [Int.one_mul] at h_; exact h_
   have hji8v : (ji6) ≤ 64 → (IntKind.i64.wrap (2 ^ (ji6).toNat)) = ji8 := fun hle_ => by have h_ := hji8z hle_; rw [Int.one_mul] at h_; exact h_
   have hji8y : (wrap64 (1 * 2 ^ min (ji6).toNat 64)) = ji8 := (i64_w _).symm.trans hji8_
   have hji8x : (ji6) ≤ 64 → (wrap64 (1 * 2 ^ (ji6).toNat)) = ji8 := fun h_ => (i64_w _).symm.trans (hji8z h_)
   replace H := Option.bind_eq_some_iff.mp H
   obtain ⟨⟨t341, t342, t343, t344⟩, A90, H⟩ := H
   replace H : (some (t341, t342, t343, t344, true)) = some (r1, r2, r3, r4, r5) := H
   have A9 := Aside0.mk A90
   clear A90
   simp only [Option.some.injEq, Prod.mk.injEq] at H
   obtain ⟨rfl, rfl, rfl, rfl, rfl⟩ := H
   go_enter Tryd.func57, Tryd.ntmps57
   have TK0_ := Aside0.mk trivial
   try go_wp2_with (first | (clear TK0_; (with_reducible refine gate_dst (N := 2) rfl ?_); refine box_event ?hg (N := 2) ?hd (cs := #[.bool a0_0, .bool a0_1, .bool a0_2, .bool a0_3]) (t := 59) ?hr ?_; (case hd => rfl); (case hg => rfl); (case hr => first | (go_simp; done) | (go_simp; rfl)); intro gb337 hg w10 hbox hb; have n0_ := Aside0.mk (below_step bw hb); have n1_ := Aside0.mk (hbox); have n2_ := Aside0.mk ((by rw [hg]; exact (below_size bw) : w.heap.size ≤ gb337)); have n3_ := Aside0.mk ((by rw [hg]; exact (below_size bw) : w.heap.size ≤ gb337)); clear HB; have HB := n0_; have BK337 := n1_; have GW337 := n2_; have GE337 := n3_; clear n0_ n1_ n2_ n3_; clear hb hbox hg; have TK1_ := Aside0.mk trivial) | (clear TK1_; (with_reducible refine gate_dst (N := 4) rfl ?_); refine box_event ?hg (N := 4) ?hd (cs := #[.bool false, .bool false, .bool false, .bool false]) (t := 59) ?hr ?_; (case hd => rfl); (case hg => rfl); (case hr => first | (go_simp; done) | (go_simp; rfl)); intro gb338 hg w11 hbox hb; have n0_ := bkB BK337 hb; have n1_ := Aside0.mk (below_step bw hb); have n2_ := Aside0.mk (hbox); have n3_ := Aside0.mk ((by rw [hg]; exact (below_size bw) : w.heap.size ≤ gb338)); have n4_ := Aside0.mk ((by rw [hg]; exact (below_size bw) : w.heap.size ≤ gb338)); have n5_ := Aside0.mk ((by rw [hg]; exact Nat.ne_of_lt (blk_lt (g := gb337) (o := .cells #[.bool a0_0, .bool a0_1, .bool a0_2, .bool a0_3] 59 (0, 0)) (bk BK337)) : gb337 ≠ gb338)); have n6_ := Aside0.mk ((by rw [hg]; exact Nat.ne_of_gt (blk_lt (g := gb337) (o := .cells #[.bool a0_0, .bool a0_1, .bool a0_2, .bool a0_3] 59 (0, 0)) (bk BK337)) : gb338 ≠ gb337)); clear BK337 HB; have BK337 := n0_; have HB := n1_; have BK338 := n2_; have GW338 := n3_; have GE338 := n4_; have NB337_338 := n5_; have NB338_337 := n6_; clear n0_ n1_ n2_ n3_ n4_ n5_ n6_; clear hb hbox hg; have hnb12 := NB337_338.out; have hnc12 := NB338_337.out; have hcz13_0 : w11.cell? ⟨gb337, 0, none⟩ = some (.bool a0_0) := (blk_cell BK337.out 0).trans rfl; have hcz13_1 : w11.cell? ⟨gb337, 1, none⟩ = some (.bool a0_1) := (blk_cell BK337.out 1).trans rfl; have hcz13_2 : w11.cell? ⟨gb337, 2, none⟩ = some (.bool a0_2) := (blk_cell BK337.out 2).trans rfl; have hcz13_3 : w11.cell? ⟨gb337, 3, none⟩ = some (.bool a0_3) := (blk_cell BK337.out 3).trans rfl; have hfz13_0 := blk_frozen BK337.out 0; have hfz13_1 := blk_frozen BK337.out 1; have hfz13_2 := blk_frozen BK337.out 2; have hfz13_3 := blk_frozen BK337.out 3; have TK2_ := Aside0.mk trivial) | (clear TK2_; (with_reducible refine gate_callee (f := 55) rfl ?_); refine goesL_ (some 8) rfl rfl Tryd.func55 (by kernel_rfl) rfl #[.agg #[.bool a0_0, .bool a0_1, .bool a0_2, .bool a0_3], .int .i64 a1] rfl (by (try simp only [List.map_toArray, List.map_cons, List.map_nil]); first | done | rfl | (simp only [List.length_drop, List.length_take]; rfl)) ?_; (with_reducible refine (impl_BayMay.calls a0_0 a0_1 a0_2 a0_3 a1 true _ A3.out).mono ?_); rintro e w14 ⟨rfl, hb⟩; refine ⟨_, rfl, ?_⟩; have n0_ := bkB BK337 hb; have n1_ := bkB BK338 hb; have n2_ := Aside0.mk (below_step bw hb); clear BK337 BK338 HB; have BK337 := n0_; have BK338 := n1_; have HB := n2_; clear n0_ n1_ n2_; (try clear hb); (try clear hb2); (try clear hk); (try clear hi); have TK3_ := Aside0.mk trivial))
   have n0_ := Aside0.mk (blk_drew BK337.out)
   have n1_ := Aside0.mk (blk_drew BK338.out)
   have n2_ := Aside0.mk (below_drew1 HB.out)
   clear BK337
   clear BK338
   clear HB
   have BK337 := n0_
   have BK338 := n1_
   have HB := n2_
   clear n0_ n1_ n2_
   refine start_ (n := 9) (S := fun w' => w'.cell? ⟨gb337, 0, none⟩ = some (.bool a0_0) ∧ w'.cell? ⟨gb337, 1, none⟩ = some (.bool a0_1) ∧ w'.cell? ⟨gb337, 2, none⟩ = some (.bool a0_2) ∧ w'.cell? ⟨gb337, 3, none⟩ = some (.bool a0_3)) (ds := []) (bz 9 0) (by kernel_rfl) rfl rfl ⟨(blk_cell BK337.out 0).trans rfl, (blk_cell BK337.out 1).trans rfl, (blk_cell BK337.out 2).trans rfl, (blk_cell BK337.out 3).trans rfl⟩ (fun hHeld => ?_); refine with_tabW impl_BayDo.tab3 impl_BayDo.bits3 (fun HT_ HW_ => ?_)
   generalize w14.drew = w15 at BK337 BK338 HB hHeld ⊢
   refine pure_ (i := 2) (N := some 13) (v := ?_) (a' := ?_) (bz 9 4) rfl rfl (any_of HT_.out (by kernel_rfl)) (fun _ _ _ h => h) (Or.inl ⟨by rfl, ?_⟩) ?_ ?_
   rotate_left
   ·intro w'
    go_simp
    with_reducible rfl
   rotate_left
   ·simp only [Act.put, List.setIfInBounds_toArray, List.set_cons_zero, List.set_cons_succ, i64_w, i32_w]
    rfl
   refine pure_ (i := 3) (N := some 14) (v := ?_) (a' := ?_) (bz 9 12) rfl rfl (any_of HT_.out (by kernel_rfl)) (fun _ _ _ h => h) (Or.inl ⟨by rfl, ?_⟩) ?_ ?_
   rotate_left
   ·intro w'
    go_simp
    with_reducible rfl
   rotate_left
   ·simp only [Act.put, List.setIfInBounds_toArray, List.set_cons_zero, List.set_cons_succ, i64_w, i32_w]
    rfl
   refine pure_ (i := 4) (N := some 15) (v := ?_) (a' := ?_) (bz 9 28) rfl rfl (any_of HT_.out (by kernel_rfl)) (fun _ _ _ h => h) (Or.inl ⟨by rfl, ?_⟩) ?_ ?_
   rotate_left
   ·intro w'
    go_simp
    with_reducible rfl
   rotate_left
   ·simp only [Act.put, List.setIfInBounds_toArray, List.set_cons_zero, List.set_cons_succ, i64_w, i32_w]
    rfl
   refine take_ (i := 0) (N := some 11) (v := ?_) (a' := ?_) (bz 9 29) rfl rfl (take_ofW HT_.out HW_.out (by kernel_rfl)) (fun _ _ _ h => h) (Or.inl ⟨by rfl, ?_⟩) hHeld ?_ ?_
   rotate_left
   ·rintro w' ⟨s0, s1, s2, s3⟩
    go_simp
    with_reducible rfl
   rotate_left
   ·simp only [Act.put, List.setIfInBounds_toArray, List.set_cons_zero, List.set_cons_succ, i64_w, i32_w]
    rfl
   refine one_ (i := 1) (N := some 12) (bz 9 31) rfl rfl (one_of HT_.out (by kernel_rfl)) (by decide) (fun K hK => ?_)
   refine goes_ Tryd.func104 (by kernel_rfl) rfl #[.agg #[.bool a0_0, .bool a0_1, .bool a0_2, .bool a0_3]] (by rfl) rfl rfl (by (try simp only [List.map_toArray, List.map_cons, List.map_nil]); first | done | rfl | (simp only [List.length_drop, List.length_take]; rfl)) ?_
   with_reducible refine (impl_Bay_number.calls a0_0 a0_1 a0_2 a0_3 t340 _ A5.out).mono ?_
   rintro e w16 ⟨rfl, hb⟩
   refine ⟨_, rfl, ?_⟩
   have n0_ := bkB BK337 hb
   have n1_ := bkB BK338 hb
   have n2_ := Aside0.mk (below_step bw hb)
   clear BK337
   clear BK338
   clear HB
   have BK337 := n0_
   have BK338 := n1_
   have HB := n2_
   clear n0_ n1_ n2_
   (try clear hb)
   (try clear hb2)
   (try clear hk)
   (try clear hi)
   refine hK.out _ _ ⟨(blk_cell BK337.out 0).trans rfl, (blk_cell BK337.out 1).trans rfl, (blk_cell BK337.out 2).trans rfl, (blk_cell BK337.out 3).trans rfl⟩ (fun hHeld => ?_)
   clear hK K
   refine norm_ (a' := ?_) ?_ ?_
   rotate_left
   ·show Act.put _ (some 12) _ = _
    simp only [Act.put, List.setIfInBounds_toArray, List.set_cons_zero, List.set_cons_succ, i64_w, i32_w]
    rfl
   refine pure_ (i := 5) (N := some 16) (v := ?_) (a' := ?_) (bz 9 63) rfl rfl (any_of HT_.out (by kernel_rfl)) (fun _ _ _ h => h) (Or.inl ⟨by rfl, ?_⟩) ?_ ?_
   rotate_left
   ·intro w'
    go_simp
    with_reducible rfl
   rotate_left
   ·simp only [Act.put, List.setIfInBounds_toArray, List.set_cons_zero, List.set_cons_succ, i64_w, i32_w]
    rfl
   refine one_ (i := 6) (N := some 17) (bz 9 127) rfl rfl (one_of HT_.out (by kernel_rfl)) (by decide) (fun K hK => ?_)
   refine goes_ Tryd.func106 (by kernel_rfl) rfl #[.int .i64 (Go.bits .xor .i64 t340 (ji8))] (by rfl) rfl rfl (by (try simp only [List.map_toArray, List.map_cons, List.map_nil]); first | done | (simp only [hji8]; rfl) | rfl | (simp only [List.length_drop, List.length_take]; rfl)) ?_
   with_reducible refine (impl_bayOf.calls (Go.bits .xor .i64 t340 (ji8)) t341 t342 t343 t344 _ A9.out).mono ?_
   rintro e w17 ⟨rfl, hb⟩
   refine ⟨_, rfl, ?_⟩
   have n0_ := bkB BK337 hb
   have n1_ := bkB BK338 hb
   have n2_ := Aside0.mk (below_step bw hb)
   clear BK337
   clear BK338
   clear HB
   have BK337 := n0_
   have BK338 := n1_
   have HB := n2_
   clear n0_ n1_ n2_
   (try clear hb)
   (try clear hb2)
   (try clear hk)
   (try clear hi)
   refine hK.out _ _ ⟨(blk_cell BK337.out 0).trans rfl, (blk_cell BK337.out 1).trans rfl, (blk_cell BK337.out 2).trans rfl, (blk_cell BK337.out 3).trans rfl⟩ (fun hHeld => ?_)
   clear hK K
   refine norm_ (a' := ?_) ?_ ?_
   rotate_left
   ·show Act.put _ (some 17) _ = _
    simp only [Act.put, List.setIfInBounds_toArray, List.set_cons_zero, List.set_cons_succ, i64_w, i32_w]
    rfl
   refine one_ (i := 7) (N := none) (bz 9 255) rfl rfl (one_of HT_.out (by kernel_rfl)) (by decide) (fun K hK => ?_)
   have hs18 : w17.cell? ⟨gb338, 0, none⟩ = some (.bool false) := (blk_cell BK338.out 0).trans rfl
   have hfs18 := blk_frozen BK338.out 0
   have hns18_0 := NB337_338.out
   have hms18_0 := NB338_337.out
   have hs19 : w17.cell? ⟨gb338, 1, none⟩ = some (.bool false) := (blk_cell BK338.out 1).trans rfl
   have hfs19 := blk_frozen BK338.out 1
   have hns19_0 := NB337_338.out
   have hms19_0 := NB338_337.out
   have hs20 : w17.cell? ⟨gb338, 2, none⟩ = some (.bool false) := (blk_cell BK338.out 2).trans rfl
   have hfs20 := blk_frozen BK338.out 2
   have hns20_0 := NB337_338.out
   have hms20_0 := NB338_337.out
   have hs21 : w17.cell? ⟨gb338, 3, none⟩ = some (.bool false) := (blk_cell BK338.out 3).trans rfl
   have hfs21 := blk_frozen BK338.out 3
   have hns21_0 := NB337_338.out
   have hms21_0 := NB338_337.out
   refine skip_ (w1 := ?_) (by rfl) rfl ?_ ?_
   rotate_left
   ·go_simp
    rfl
   refine hK.out _ _ ⟨((cell_far (p := ⟨gb338, _, none⟩) NB337_338.out _).trans (((cell_far (p := ⟨gb338, _, none⟩) NB337_338.out _).trans (((cell_far (p := ⟨gb338, _, none⟩) NB337_338.out _).trans (((cell_far (p := ⟨gb338, _, none⟩) NB337_338.out _).trans (hHeld.1)))))))), ((cell_far (p := ⟨gb338, _, none⟩) NB337_338.out _).trans (((cell_far (p := ⟨gb338, _, none⟩) NB337_338.out _).trans (((cell_far (p := ⟨gb338, _, none⟩) NB337_338.out _).trans (((cell_far (p := ⟨gb338, _, none⟩) NB337_338.out _).trans (hHeld.2.1)))))))), ((cell_far (p := ⟨gb338, _, none⟩) NB337_338.out _).trans (((cell_far (p := ⟨gb338, _, none⟩) NB337_338.out _).trans (((cell_far (p := ⟨gb338, _, none⟩) NB337_338.out _).trans (((cell_far (p := ⟨gb338, _, none⟩) NB337_338.out _).trans (hHeld.2.2.1)))))))), ((cell_far (p := ⟨gb338, _, none⟩) NB337_338.out _).trans (((cell_far (p := ⟨gb338, _, none⟩) NB337_338.out _).trans (((cell_far (p := ⟨gb338, _, none⟩) NB337_338.out _).trans (((cell_far (p := ⟨gb338, _, none⟩) NB337_338.out _).trans (hHeld.2.2.2))))))))⟩ (fun hHeld => ?_)
   clear hK K
   refine pure_ (i := 8) (N := some 5) (v := ?_) (a' := ?_) (bz 9 511) rfl rfl (any_of HT_.out (by kernel_rfl)) (fun _ _ _ h => h) (Or.inl ⟨by rfl, ?_⟩) ?_ ?_
   rotate_left
   ·intro w'
    go_simp
    with_reducible rfl
   rotate_left
   ·simp only [Act.put, List.setIfInBounds_toArray, List.set_cons_zero, List.set_cons_succ, i64_w, i32_w]
    rfl
   refine done_ (done_of HT_.out (by kernel_rfl)) ?_
   try go_wp2
   refine bodyPost_ret (results_ct rfl _ _ gb338 59 #[.bool t341, .bool t342, .bool t343, .bool t344] (0, 0) _ rfl (by (with_reducible repeat (first | refine blk_drewN ?_ _ | refine blk_drew ?_ | refine blk_alloc ?_ _)); refine blk_put (cs := #[.bool t341, .bool t342, .bool t343, .bool false]) ?_ 3 _ rfl; (with_reducible repeat (first | refine blk_drewN ?_ _ | refine blk_drew ?_ | refine blk_alloc ?_ _)); refine blk_put (cs := #[.bool t341, .bool t342, .bool false, .bool false]) ?_ 2 _ rfl; (with_reducible repeat (first | refine blk_drewN ?_ _ | refine blk_drew ?_ | refine blk_alloc ?_ _)); refine blk_put (cs := #[.bool t341, .bool false, .bool false, .bool false]) ?_ 1 _ rfl; (with_reducible repeat (first | refine blk_drewN ?_ _ | refine blk_drew ?_ | refine blk_alloc ?_ _)); refine blk_put (cs := #[.bool false, .bool false, .bool false, .bool false]) ?_ 0 _ rfl; (with_reducible repeat (first | refine blk_drewN ?_ _ | refine blk_drew ?_ | refine blk_alloc ?_ _)); exact BK338.out) Tryd.underlying59 rfl (by kernel_rfl)) rfl ?_
   exact ⟨by first | rfl | (simp [errW_none, errW_some] <;> rfl) | (simp only [← hji6, ← hji8]; first | rfl | (simp [errW_none, errW_some] <;> rfl)) | (simp [*, errW_none, errW_some] <;> rfl), bw⟩
  ·rw [if_neg c7] at H
   exact absurd H (by simp)
 ·replace c4 := Bool.eq_false_iff.mpr c4
  subst c4
  have H1 : (some (a0_0, a0_1, a0_2, a0_3, false)) = some (r1, r2, r3, r4, r5) := by rw [if_neg (show ¬ (false = true) by decide)] at H; exact H
  clear H
  have H := H1
  clear H1
  simp only [Option.some.injEq, Prod.mk.injEq] at H
  obtain ⟨rfl, rfl, rfl, rfl, rfl⟩ := H
  go_enter Tryd.func57, Tryd.ntmps57
  have TK0_ := Aside0.mk trivial
  go_wp2_with (first | (clear TK0_; (with_reducible refine gate_dst (N := 2) rfl ?_); refine box_event ?hg (N := 2) ?hd (cs := #[.bool a0_0, .bool a0_1, .bool a0_2, .bool a0_3]) (t := 59) ?hr ?_; (case hd => rfl); (case hg => rfl); (case hr => first | (go_simp; done) | (go_simp; rfl)); intro gb337 hg w22 hbox hb; have n0_ := Aside0.mk (below_step bw hb); have n1_ := Aside0.mk (hbox); have n2_ := Aside0.mk ((by rw [hg]; exact (below_size bw) : w.heap.size ≤ gb337)); have n3_ := Aside0.mk ((by rw [hg]; exact (below_size bw) : w.heap.size ≤ gb337)); clear HB; have HB := n0_; have BK337 := n1_; have GW337 := n2_; have GE337 := n3_; clear n0_ n1_ n2_ n3_; clear hb hbox hg; have TK1_ := Aside0.mk trivial) | (clear TK1_; (with_reducible refine gate_dst (N := 4) rfl ?_); refine box_event ?hg (N := 4) ?hd (cs := #[.bool false, .bool false, .bool false, .bool false]) (t := 59) ?hr ?_; (case hd => rfl); (case hg => rfl); (case hr => first | (go_simp; done) | (go_simp; rfl)); intro gb338 hg w23 hbox hb; have n0_ := bkB BK337 hb; have n1_ := Aside0.mk (below_step bw hb); have n2_ := Aside0.mk (hbox); have n3_ := Aside0.mk ((by rw [hg]; exact (below_size bw) : w.heap.size ≤ gb338)); have n4_ := Aside0.mk ((by rw [hg]; exact (below_size bw) : w.heap.size ≤ gb338)); have n5_ := Aside0.mk ((by rw [hg]; exact Nat.ne_of_lt (blk_lt (g := gb337) (o := .cells #[.bool a0_0, .bool a0_1, .bool a0_2, .bool a0_3] 59 (0, 0)) (bk BK337)) : gb337 ≠ gb338)); have n6_ := Aside0.mk ((by rw [hg]; exact Nat.ne_of_gt (blk_lt (g := gb337) (o := .cells #[.bool a0_0, .bool a0_1, .bool a0_2, .bool a0_3] 59 (0, 0)) (bk BK337)) : gb338 ≠ gb337)); clear BK337 HB; have BK337 := n0_; have HB := n1_; have BK338 := n2_; have GW338 := n3_; have GE338 := n4_; have NB337_338 := n5_; have NB338_337 := n6_; clear n0_ n1_ n2_ n3_ n4_ n5_ n6_; clear hb hbox hg; have hnb24 := NB337_338.out; have hnc24 := NB338_337.out; have hcz25_0 : w23.cell? ⟨gb337, 0, none⟩ = some (.bool a0_0) := (blk_cell BK337.out 0).trans rfl; have hcz25_1 : w23.cell? ⟨gb337, 1, none⟩ = some (.bool a0_1) := (blk_cell BK337.out 1).trans rfl; have hcz25_2 : w23.cell? ⟨gb337, 2, none⟩ = some (.bool a0_2) := (blk_cell BK337.out 2).trans rfl; have hcz25_3 : w23.cell? ⟨gb337, 3, none⟩ = some (.bool a0_3) := (blk_cell BK337.out 3).trans rfl; have hfz25_0 := blk_frozen BK337.out 0; have hfz25_1 := blk_frozen BK337.out 1; have hfz25_2 := blk_frozen BK337.out 2; have hfz25_3 := blk_frozen BK337.out 3; have TK2_ := Aside0.mk trivial) | (clear TK2_; (with_reducible refine gate_callee (f := 55) rfl ?_); refine goesL_ (some 8) rfl rfl Tryd.func55 (by kernel_rfl) rfl #[.agg #[.bool a0_0, .bool a0_1, .bool a0_2, .bool a0_3], .int .i64 a1] rfl (by (try simp only [List.map_toArray, List.map_cons, List.map_nil]); first | done | rfl | (simp only [List.length_drop, List.length_take]; rfl)) ?_; (with_reducible refine (impl_BayMay.calls a0_0 a0_1 a0_2 a0_3 a1 false _ A3.out).mono ?_); rintro e w26 ⟨rfl, hb⟩; refine ⟨_, rfl, ?_⟩; have n0_ := bkB BK337 hb; have n1_ := bkB BK338 hb; have n2_ := Aside0.mk (below_step bw hb); clear BK337 BK338 HB; have BK337 := n0_; have BK338 := n1_; have HB := n2_; clear n0_ n1_ n2_; (try clear hb); (try clear hb2); (try clear hk); (try clear hi); have hcz27_0 : w26.cell? ⟨gb337, 0, none⟩ = some (.bool a0_0) := (blk_cell BK337.out 0).trans rfl; have hcz27_1 : w26.cell? ⟨gb337, 1, none⟩ = some (.bool a0_1) := (blk_cell BK337.out 1).trans rfl; have hcz27_2 : w26.cell? ⟨gb337, 2, none⟩ = some (.bool a0_2) := (blk_cell BK337.out 2).trans rfl; have hcz27_3 : w26.cell? ⟨gb337, 3, none⟩ = some (.bool a0_3) := (blk_cell BK337.out 3).trans rfl; have hfz27_0 := blk_frozen BK337.out 0; have hfz27_1 := blk_frozen BK337.out 1; have hfz27_2 := blk_frozen BK337.out 2; have hfz27_3 := blk_frozen BK337.out 3; have hcz28_0 : w26.cell? ⟨gb338, 0, none⟩ = some (.bool false) := (blk_cell BK338.out 0).trans rfl; have hcz28_1 : w26.cell? ⟨gb338, 1, none⟩ = some (.bool false) := (blk_cell BK338.out 1).trans rfl; have hcz28_2 : w26.cell? ⟨gb338, 2, none⟩ = some (.bool false) := (blk_cell BK338.out 2).trans rfl; have hcz28_3 : w26.cell? ⟨gb338, 3, none⟩ = some (.bool false) := (blk_cell BK338.out 3).trans rfl; have hfz28_0 := blk_frozen BK338.out 0; have hfz28_1 := blk_frozen BK338.out 1; have hfz28_2 := blk_frozen BK338.out 2; have hfz28_3 := blk_frozen BK338.out 3; have TK3_ := Aside0.mk trivial))
  refine bodyPost_ret (results_ct rfl _ _ gb338 59 #[.bool a0_0, .bool a0_1, .bool a0_2, .bool a0_3] (0, 0) _ rfl (by (with_reducible repeat (first | refine blk_drewN ?_ _ | refine blk_drew ?_ | refine blk_alloc ?_ _)); refine blk_put (cs := #[.bool a0_0, .bool a0_1, .bool a0_2, .bool false]) ?_ 3 _ rfl; (with_reducible repeat (first | refine blk_drewN ?_ _ | refine blk_drew ?_ | refine blk_alloc ?_ _)); refine blk_put (cs := #[.bool a0_0, .bool a0_1, .bool false, .bool false]) ?_ 2 _ rfl; (with_reducible repeat (first | refine blk_drewN ?_ _ | refine blk_drew ?_ | refine blk_alloc ?_ _)); refine blk_put (cs := #[.bool a0_0, .bool false, .bool false, .bool false]) ?_ 1 _ rfl; (with_reducible repeat (first | refine blk_drewN ?_ _ | refine blk_drew ?_ | refine blk_alloc ?_ _)); refine blk_put (cs := #[.bool false, .bool false, .bool false, .bool false]) ?_ 0 _ rfl; (with_reducible repeat (first | refine blk_drewN ?_ _ | refine blk_drew ?_ | refine blk_alloc ?_ _)); exact BK338.out) Tryd.underlying59 rfl (by kernel_rfl)) rfl ?_
  exact ⟨by first | rfl | (simp [errW_none, errW_some] <;> rfl) | (simp [*, errW_none, errW_some] <;> rfl), bw⟩

-- NOT PRINTED: function 11 (laws_FnBayMay)

/-! ### spec_DrawBayDo: function 62 -/
def spec_DrawBayDo.f (k : Nat) (l0 : List Int) : Option (Bool × Bool × Bool × Bool × Int) := (spec_DrawBayMay.f k l0).bind fun bt346 => (some (bt346.1, bt346.2.1, bt346.2.2.1, bt346.2.2.2.1, bt346.2.2.2.2))
theorem spec_DrawBayDo.mono : ∀ a0 k, LeO (spec_DrawBayDo.f k a0) (spec_DrawBayDo.f (k + 1) a0) := by
 intro a0 k
 unfold spec_DrawBayDo.f
 repeat' first
   | (with_reducible exact spec_DrawBayMay.mono _ _)
   | (with_reducible exact LeO.refl _)
   | (with_reducible exact LeO.none _)
   | (with_reducible refine LeO.ite ?_ ?_)
   | (with_reducible refine LeO.bind ?_ (fun _ => ?_))
   | exact spec_DrawBayMay.mono _ _
   | exact LeO.none _
   | refine LeO.ite ?_ ?_
   | refine LeO.bind ?_ (fun _ => ?_)
set_option maxHeartbeats 8000000 in
set_option maxRecDepth 100000 in
theorem spec_DrawBayDo.calls (k : Nat) (A0 : Option Addr) (c0 : Nat) (l0 : List Int) (r1 : Bool) (r2 : Bool) (r3 : Bool) (r4 : Bool) (r5 : Int) (w : World) (hr0 : Kd.C (Kd.int .u8) w A0 l0.length l0) (hc0 : l0.length ≤ c0) (h : spec_DrawBayDo.f k l0 = some (r1, r2, r3, r4, r5)) :
  Calls Tryd.prog 62 #[.slice A0 l0.length c0] w fun e w' => e = .returned (.tuple #[.agg #[.bool r1, .bool r2, .bool r3, .bool r4], .int .i64 r5]) ∧ Below w.heap.size w w' := by
 have hu59 := Tryd.underlying59
 have HR0 := Aside0.mk hr0
 have HC0 := Aside0.mk hc0
 clear hr0 hc0
 have HB := Aside0.mk (Below.refl w.heap.size w)
 have H : ((spec_DrawBayMay.f k l0).bind fun bt346 => (some (bt346.1, bt346.2.1, bt346.2.2.1, bt346.2.2.2.1, bt346.2.2.2.2))) = some (r1, r2, r3, r4, r5) := h
 clear h
 replace H := Option.bind_eq_some_iff.mp H
 obtain ⟨⟨t346, t347, t348, t349, t350⟩, A20, H⟩ := H
 replace H : (some (t346, t347, t348, t349, t350)) = some (r1, r2, r3, r4, r5) := H
 have A2 := Aside0.mk A20
 clear A20
 simp only [Option.some.injEq, Prod.mk.injEq] at H
 obtain ⟨rfl, rfl, rfl, rfl, rfl⟩ := H
 go_enter Tryd.func62, Tryd.ntmps62
 go_wp2_with (first | ((with_reducible refine gate_dst (N := 2) rfl ?_); refine box_event ?hg (N := 2) ?hd (cs := #[.bool false, .bool false, .bool false, .bool false]) (t := 59) ?hr ?_; (case hd => rfl); (case hg => rfl); (case hr => first | (go_simp; done) | (go_simp; rfl)); intro gb345 hg w3 hbox hb; have n0_ := Aside0.mk (below_step bw hb); have n1_ := Aside0.mk (hbox); have n2_ := Aside0.mk ((by rw [hg]; exact (below_size bw) : w.heap.size ≤ gb345)); have n3_ := Aside0.mk ((by rw [hg]; exact (below_size bw) : w.heap.size ≤ gb345)); clear HB; have HB := n0_; have BK345 := n1_; have GW345 := n2_; have GE345 := n3_; clear n0_ n1_ n2_ n3_; clear hb hbox hg) | ((with_reducible refine gate_callee (f := 54) rfl ?_); refine goesL_ (some 5) rfl rfl Tryd.func54 (by kernel_rfl) rfl #[.slice A0 l0.length c0] rfl (by (try simp only [List.map_toArray, List.map_cons, List.map_nil]); first | done | rfl | (simp only [List.length_drop, List.length_take]; rfl)) ?_; (with_reducible refine (spec_DrawBayMay.calls k _ _ l0 t346 t347 t348 t349 t350 _ ?side1 ?side2 A2.out).mono ?_); (case side1 => exact cb HR0); (case side2 => exact HC0.out); rintro e w4 ⟨rfl, hb⟩; refine ⟨_, rfl, ?_⟩; have n0_ := bkB BK345 hb; have n1_ := Aside0.mk (below_step bw hb); clear BK345 HB; have BK345 := n0_; have HB := n1_; clear n0_ n1_; (try clear hb); (try clear hb2); (try clear hk); (try clear hi); have hcz5_0 : w4.cell? ⟨gb345, 0, none⟩ = some (.bool false) := (blk_cell BK345.out 0).trans rfl; have hcz5_1 : w4.cell? ⟨gb345, 1, none⟩ = some (.bool false) := (blk_cell BK345.out 1).trans rfl; have hcz5_2 : w4.cell? ⟨gb345, 2, none⟩ = some (.bool false) := (blk_cell BK345.out 2).trans rfl; have hcz5_3 : w4.cell? ⟨gb345, 3, none⟩ = some (.bool false) := (blk_cell BK345.out 3).trans rfl; have hfz5_0 := blk_frozen BK345.out 0; have hfz5_1 := blk_frozen BK345.out 1; have hfz5_2 := blk_frozen BK345.out 2; have hfz5_3 := blk_frozen BK345.out 3))
 refine bodyPost_ret (results_ct rfl _ _ gb345 59 #[.bool t346, .bool t347, .bool t348, .bool t349] (0, 0) _ rfl (by (with_reducible repeat (first | refine blk_drewN ?_ _ | refine blk_drew ?_ | refine blk_alloc ?_ _)); refine blk_put (cs := #[.bool t346, .bool t347, .bool t348, .bool false]) ?_ 3 _ rfl; (with_reducible repeat (first | refine blk_drewN ?_ _ | refine blk_drew ?_ | refine blk_alloc ?_ _)); refine blk_put (cs := #[.bool t346, .bool t347, .bool false, .bool false]) ?_ 2 _ rfl; (with_reducible repeat (first | refine blk_drewN ?_ _ | refine blk_drew ?_ | refine blk_alloc ?_ _)); refine blk_put (cs := #[.bool t346, .bool false, .bool false, .bool false]) ?_ 1 _ rfl; (with_reducible repeat (first | refine blk_drewN ?_ _ | refine blk_drew ?_ | refine blk_alloc ?_ _)); refine blk_put (cs := #[.bool false, .bool false, .bool false, .bool false]) ?_ 0 _ rfl; (with_reducible repeat (first | refine blk_drewN ?_ _ | refine blk_drew ?_ | refine blk_alloc ?_ _)); exact BK345.out) Tryd.underlying59 rfl (by kernel_rfl)) rfl ?_
 exact ⟨by first | rfl | (simp [errW_none, errW_some] <;> rfl) | (simp [*, errW_none, errW_some] <;> rfl), bw⟩

/-! ### spec_l9Set: function 108 -/
def spec_l9Set.f (a0_0 : Bool) (a0_1 : Bool) (a0_2 : Bool) (a0_3 : Bool) (a1 : Int) (a2 : Bool) : Option (Bool × Bool × Bool × Bool) := if a1 = 0 then (some (a2, a0_1, a0_2, a0_3)) else (if a1 = 1 then (some (a0_0, a2, a0_2, a0_3)) else (if a1 = 2 then (some (a0_0, a0_1, a2, a0_3)) else (some (a0_0, a0_1, a0_2, a2))))
set_option maxHeartbeats 8000000 in
set_option maxRecDepth 100000 in
theorem spec_l9Set.calls (a0_0 : Bool) (a0_1 : Bool) (a0_2 : Bool) (a0_3 : Bool) (a1 : Int) (a2 : Bool) (r1 : Bool) (r2 : Bool) (r3 : Bool) (r4 : Bool) (w : World) (h : spec_l9Set.f a0_0 a0_1 a0_2 a0_3 a1 a2 = some (r1, r2, r3, r4)) :
  Calls Tryd.prog 108 #[.agg #[.bool a0_0, .bool a0_1, .bool a0_2, .bool a0_3], .int .i64 a1, .bool a2] w fun e w' => e = .returned (.agg #[.bool r1, .bool r2, .bool r3, .bool r4]) ∧ Below w.heap.size w w' := by
 have hu59 := Tryd.underlying59
 have HB := Aside0.mk (Below.refl w.heap.size w)
 have H : (if a1 = 0 then (some (a2, a0_1, a0_2, a0_3)) else (if a1 = 1 then (some (a0_0, a2, a0_2, a0_3)) else (if a1 = 2 then (some (a0_0, a0_1, a2, a0_3)) else (some (a0_0, a0_1, a0_2, a2))))) = some (r1, r2, r3, r4) := h
 clear h
 by_cases c4 : a1 = 0
 ·rw [if_pos c4] at H
  have c4b0 : (a1 == 0) = true := beq_iff_eq.mpr c4
  have c4b1 : (a1 != 0) = false := bne_eq_false_iff_eq.mpr c4
  clear c4
  simp only [Option.some.injEq, Prod.mk.injEq] at H
  obtain ⟨rfl, rfl, rfl, rfl⟩ := H
  go_enter Tryd.func108, Tryd.ntmps108
  go_wp2_with (first | ((with_reducible refine gate_dst (N := 3) rfl ?_); refine box_event ?hg (N := 3) ?hd (cs := #[.bool a0_0, .bool a0_1, .bool a0_2, .bool a0_3]) (t := 59) ?hr ?_; (case hd => rfl); (case hg => rfl); (case hr => first | (go_simp; done) | (go_simp; rfl)); intro gb351 hg w5 hbox hb; have n0_ := Aside0.mk (below_step bw hb); have n1_ := Aside0.mk (hbox); have n2_ := Aside0.mk ((by rw [hg]; exact (below_size bw) : w.heap.size ≤ gb351)); have n3_ := Aside0.mk ((by rw [hg]; exact (below_size bw) : w.heap.size ≤ gb351)); clear HB; have HB := n0_; have BK351 := n1_; have GW351 := n2_; have GE351 := n3_; clear n0_ n1_ n2_ n3_; clear hb hbox hg) | ((with_reducible refine gate_dst (N := 6) rfl ?_); refine box_event ?hg (N := 6) ?hd (cs := #[.bool false, .bool false, .bool false, .bool false]) (t := 59) ?hr ?_; (case hd => rfl); (case hg => rfl); (case hr => first | (go_simp; done) | (go_simp; rfl)); intro gb352 hg w6 hbox hb; have n0_ := bkB BK351 hb; have n1_ := Aside0.mk (below_step bw hb); have n2_ := Aside0.mk (hbox); have n3_ := Aside0.mk ((by rw [hg]; exact (below_size bw) : w.heap.size ≤ gb352)); have n4_ := Aside0.mk ((by rw [hg]; exact (below_size bw) : w.heap.size ≤ gb352)); have n5_ := Aside0.mk ((by rw [hg]; exact Nat.ne_of_lt (blk_lt (g := gb351) (o := .cells #[.bool a0_0, .bool a0_1, .bool a0_2, .bool a0_3] 59 (0, 0)) (bk BK351)) : gb351 ≠ gb352)); have n6_ := Aside0.mk ((by rw [hg]; exact Nat.ne_of_gt (blk_lt (g := gb351) (o := .cells #[.bool a0_0, .bool a0_1, .bool a0_2, .bool a0_3] 59 (0, 0)) (bk BK351)) : gb352 ≠ gb351)); clear BK351 HB; have BK351 := n0_; have HB := n1_; have BK352 := n2_; have GW352 := n3_; have GE352 := n4_; have NB351_352 := n5_; have NB352_351 := n6_; clear n0_ n1_ n2_ n3_ n4_ n5_ n6_; clear hb hbox hg; have hnb7 := NB351_352.out; have hnc7 := NB352_351.out; have hcz8_0 : w6.cell? ⟨gb351, 0, none⟩ = some (.bool a0_0) := (blk_cell BK351.out 0).trans rfl; have hcz8_1 : w6.cell? ⟨gb351, 1, none⟩ = some (.bool a0_1) := (blk_cell BK351.out 1).trans rfl; have hcz8_2 : w6.cell? ⟨gb351, 2, none⟩ = some (.bool a0_2) := (blk_cell BK351.out 2).trans rfl; have hcz8_3 : w6.cell? ⟨gb351, 3, none⟩ = some (.bool a0_3) := (blk_cell BK351.out 3).trans rfl; have hfz8_0 := blk_frozen BK351.out 0; have hfz8_1 := blk_frozen BK351.out 1; have hfz8_2 := blk_frozen BK351.out 2; have hfz8_3 := blk_frozen BK351.out 3; have hcz9_0 : w6.cell? ⟨gb352, 0, none⟩ = some (.bool false) := (blk_cell BK352.out 0).trans rfl; have hcz9_1 : w6.cell? ⟨gb352, 1, none⟩ = some (.bool false) := (blk_cell BK352.out 1).trans rfl; have hcz9_2 : w6.cell? ⟨gb352, 2, none⟩ = some (.bool false) := (blk_cell BK352.out 2).trans rfl; have hcz9_3 : w6.cell? ⟨gb352, 3, none⟩ = some (.bool false) := (blk_cell BK352.out 3).trans rfl; have hfz9_0 := blk_frozen BK352.out 0; have hfz9_1 := blk_frozen BK352.out 1; have hfz9_2 := blk_frozen BK352.out 2; have hfz9_3 := blk_frozen BK352.out 3))
  refine bodyPost_ret (results_cell_row rfl _ _ gb352 59 #[.bool a2, .bool a0_1, .bool a0_2, .bool a0_3] (0, 0) _ rfl (by (with_reducible repeat (first | refine blk_drewN ?_ _ | refine blk_drew ?_ | refine blk_alloc ?_ _)); refine blk_put (cs := #[.bool a2, .bool a0_1, .bool a0_2, .bool false]) ?_ 3 _ rfl; (with_reducible repeat (first | refine blk_drewN ?_ _ | refine blk_drew ?_ | refine blk_alloc ?_ _)); refine blk_put (cs := #[.bool a2, .bool a0_1, .bool false, .bool false]) ?_ 2 _ rfl; (with_reducible repeat (first | refine blk_drewN ?_ _ | refine blk_drew ?_ | refine blk_alloc ?_ _)); refine blk_put (cs := #[.bool a2, .bool false, .bool false, .bool false]) ?_ 1 _ rfl; (with_reducible repeat (first | refine blk_drewN ?_ _ | refine blk_drew ?_ | refine blk_alloc ?_ _)); refine blk_put (cs := #[.bool false, .bool false, .bool false, .bool false]) ?_ 0 _ rfl; (with_reducible repeat (first | refine blk_drewN ?_ _ | refine blk_drew ?_ | refine blk_alloc ?_ _)); refine blk_far ?_ NB352_351.out _; (with_reducible repeat (first | refine blk_drewN ?_ _ | refine blk_drew ?_ | refine blk_alloc ?_ _)); exact BK352.out) Tryd.underlying59 rfl (by kernel_rfl)) rfl ?_
  exact ⟨by first | rfl | (simp [errW_none, errW_some] <;> rfl) | (simp [*, errW_none, errW_some] <;> rfl), bw⟩
 ·rw [if_neg c4] at H
  have c4b0 : (a1 == 0) = false := beq_eq_false_iff_ne.mpr c4
  have c4b1 : (a1 != 0) = true := bne_iff_ne.mpr c4
  by_cases c10 : a1 = 1
  ·rw [if_pos c10] at H
   have c10b0 : (a1 == 1) = true := beq_iff_eq.mpr c10
   have c10b1 : (a1 != 1) = false := bne_eq_false_iff_eq.mpr c10
   clear c10
   simp only [Option.some.injEq, Prod.mk.injEq] at H
   obtain ⟨rfl, rfl, rfl, rfl⟩ := H
   go_enter Tryd.func108, Tryd.ntmps108
   go_wp2_with (first | ((with_reducible refine gate_dst (N := 3) rfl ?_); refine box_event ?hg (N := 3) ?hd (cs := #[.bool a0_0, .bool a0_1, .bool a0_2, .bool a0_3]) (t := 59) ?hr ?_; (case hd => rfl); (case hg => rfl); (case hr => first | (go_simp; done) | (go_simp; rfl)); intro gb351 hg w11 hbox hb; have n0_ := Aside0.mk (below_step bw hb); have n1_ := Aside0.mk (hbox); have n2_ := Aside0.mk ((by rw [hg]; exact (below_size bw) : w.heap.size ≤ gb351)); have n3_ := Aside0.mk ((by rw [hg]; exact (below_size bw) : w.heap.size ≤ gb351)); clear HB; have HB := n0_; have BK351 := n1_; have GW351 := n2_; have GE351 := n3_; clear n0_ n1_ n2_ n3_; clear hb hbox hg) | ((with_reducible refine gate_dst (N := 6) rfl ?_); refine box_event ?hg (N := 6) ?hd (cs := #[.bool false, .bool false, .bool false, .bool false]) (t := 59) ?hr ?_; (case hd => rfl); (case hg => rfl); (case hr => first | (go_simp; done) | (go_simp; rfl)); intro gb352 hg w12 hbox hb; have n0_ := bkB BK351 hb; have n1_ := Aside0.mk (below_step bw hb); have n2_ := Aside0.mk (hbox); have n3_ := Aside0.mk ((by rw [hg]; exact (below_size bw) : w.heap.size ≤ gb352)); have n4_ := Aside0.mk ((by rw [hg]; exact (below_size bw) : w.heap.size ≤ gb352)); have n5_ := Aside0.mk ((by rw [hg]; exact Nat.ne_of_lt (blk_lt (g := gb351) (o := .cells #[.bool a0_0, .bool a0_1, .bool a0_2, .bool a0_3] 59 (0, 0)) (bk BK351)) : gb351 ≠ gb352)); have n6_ := Aside0.mk ((by rw [hg]; exact Nat.ne_of_gt (blk_lt (g := gb351) (o := .cells #[.bool a0_0, .bool a0_1, .bool a0_2, .bool a0_3] 59 (0, 0)) (bk BK351)) : gb352 ≠ gb351)); clear BK351 HB; have BK351 := n0_; have HB := n1_; have BK352 := n2_; have GW352 := n3_; have GE352 := n4_; have NB351_352 := n5_; have NB352_351 := n6_; clear n0_ n1_ n2_ n3_ n4_ n5_ n6_; clear hb hbox hg; have hnb13 := NB351_352.out; have hnc13 := NB352_351.out; have hcz14_0 : w12.cell? ⟨gb351, 0, none⟩ = some (.bool a0_0) := (blk_cell BK351.out 0).trans rfl; have hcz14_1 : w12.cell? ⟨gb351, 1, none⟩ = some (.bool a0_1) := (blk_cell BK351.out 1).trans rfl; have hcz14_2 : w12.cell? ⟨gb351, 2, none⟩ = some (.bool a0_2) := (blk_cell BK351.out 2).trans rfl; have hcz14_3 : w12.cell? ⟨gb351, 3, none⟩ = some (.bool a0_3) := (blk_cell BK351.out 3).trans rfl; have hfz14_0 := blk_frozen BK351.out 0; have hfz14_1 := blk_frozen BK351.out 1; have hfz14_2 := blk_frozen BK351.out 2; have hfz14_3 := blk_frozen BK351.out 3; have hcz15_0 : w12.cell? ⟨gb352, 0, none⟩ = some (.bool false) := (blk_cell BK352.out 0).trans rfl; have hcz15_1 : w12.cell? ⟨gb352, 1, none⟩ = some (.bool false) := (blk_cell BK352.out 1).trans rfl; have hcz15_2 : w12.cell? ⟨gb352, 2, none⟩ = some (.bool false) := (blk_cell BK352.out 2).trans rfl; have hcz15_3 : w12.cell? ⟨gb352, 3, none⟩ = some (.bool false) := (blk_cell BK352.out 3).trans rfl; have hfz15_0 := blk_frozen BK352.out 0; have hfz15_1 := blk_frozen BK352.out 1; have hfz15_2 := blk_frozen BK352.out 2; have hfz15_3 := blk_frozen BK352.out 3))
   refine bodyPost_ret (results_cell_row rfl _ _ gb352 59 #[.bool a0_0, .bool a2, .bool a0_2, .bool a0_3] (0, 0) _ rfl (by (with_reducible repeat (first | refine blk_drewN ?_ _ | refine blk_drew ?_ | refine blk_alloc ?_ _)); refine blk_put (cs := #[.bool a0_0, .bool a2, .bool a0_2, .bool false]) ?_ 3 _ rfl; (with_reducible repeat (first | refine blk_drewN ?_ _ | refine blk_drew ?_ | refine blk_alloc ?_ _)); refine blk_put (cs := #[.bool a0_0, .bool a2, .bool false, .bool false]) ?_ 2 _ rfl; (with_reducible repeat (first | refine blk_drewN ?_ _ | refine blk_drew ?_ | refine blk_alloc ?_ _)); refine blk_put (cs := #[.bool a0_0, .bool false, .bool false, .bool false]) ?_ 1 _ rfl; (with_reducible repeat (first | refine blk_drewN ?_ _ | refine blk_drew ?_ | refine blk_alloc ?_ _)); refine blk_put (cs := #[.bool false, .bool false, .bool false, .bool false]) ?_ 0 _ rfl; (with_reducible repeat (first | refine blk_drewN ?_ _ | refine blk_drew ?_ | refine blk_alloc ?_ _)); refine blk_far ?_ NB352_351.out _; (with_reducible repeat (first | refine blk_drewN ?_ _ | refine blk_drew ?_ | refine blk_alloc ?_ _)); exact BK352.out) Tryd.underlying59 rfl (by kernel_rfl)) rfl ?_
   exact ⟨by first | rfl | (simp [errW_none, errW_some] <;> rfl) | (simp [*, errW_none, errW_some] <;> rfl), bw⟩
  ·rw [if_neg c10] at H
   have c10b0 : (a1 == 1) = false := beq_eq_false_iff_ne.mpr c10
   have c10b1 : (a1 != 1) = true := bne_iff_ne.mpr c10
   by_cases c16 : a1 = 2
   ·rw [if_pos c16] at H
    have c16b0 : (a1 == 2) = true := beq_iff_eq.mpr c16
    have c16b1 : (a1 != 2) = false := bne_eq_false_iff_eq.mpr c16
    clear c16
    simp only [Option.some.injEq, Prod.mk.injEq] at H
    obtain ⟨rfl, rfl, rfl, rfl⟩ := H
    go_enter Tryd.func108, Tryd.ntmps108
    go_wp2_with (first | ((with_reducible refine gate_dst (N := 3) rfl ?_); refine box_event ?hg (N := 3) ?hd (cs := #[.bool a0_0, .bool a0_1, .bool a0_2, .bool a0_3]) (t := 59) ?hr ?_; (case hd => rfl); (case hg => rfl); (case hr => first | (go_simp; done) | (go_simp; rfl)); intro gb351 hg w17 hbox hb; have n0_ := Aside0.mk (below_step bw hb); have n1_ := Aside0.mk (hbox); have n2_ := Aside0.mk ((by rw [hg]; exact (below_size bw) : w.heap.size ≤ gb351)); have n3_ := Aside0.mk ((by rw [hg]; exact (below_size bw) : w.heap.size ≤ gb351)); clear HB; have HB := n0_; have BK351 := n1_; have GW351 := n2_; have GE351 := n3_; clear n0_ n1_ n2_ n3_; clear hb hbox hg) | ((with_reducible refine gate_dst (N := 6) rfl ?_); refine box_event ?hg (N := 6) ?hd (cs := #[.bool false, .bool false, .bool false, .bool false]) (t := 59) ?hr ?_; (case hd => rfl); (case hg => rfl); (case hr => first | (go_simp; done) | (go_simp; rfl)); intro gb352 hg w18 hbox hb; have n0_ := bkB BK351 hb; have n1_ := Aside0.mk (below_step bw hb); have n2_ := Aside0.mk (hbox); have n3_ := Aside0.mk ((by rw [hg]; exact (below_size bw) : w.heap.size ≤ gb352)); have n4_ := Aside0.mk ((by rw [hg]; exact (below_size bw) : w.heap.size ≤ gb352)); have n5_ := Aside0.mk ((by rw [hg]; exact Nat.ne_of_lt (blk_lt (g := gb351) (o := .cells #[.bool a0_0, .bool a0_1, .bool a0_2, .bool a0_3] 59 (0, 0)) (bk BK351)) : gb351 ≠ gb352)); have n6_ := Aside0.mk ((by rw [hg]; exact Nat.ne_of_gt (blk_lt (g := gb351) (o := .cells #[.bool a0_0, .bool a0_1, .bool a0_2, .bool a0_3] 59 (0, 0)) (bk BK351)) : gb352 ≠ gb351)); clear BK351 HB; have BK351 := n0_; have HB := n1_; have BK352 := n2_; have GW352 := n3_; have GE352 := n4_; have NB351_352 := n5_; have NB352_351 := n6_; clear n0_ n1_ n2_ n3_ n4_ n5_ n6_; clear hb hbox hg; have hnb19 := NB351_352.out; have hnc19 := NB352_351.out; have hcz20_0 : w18.cell? ⟨gb351, 0, none⟩ = some (.bool a0_0) := (blk_cell BK351.out 0).trans rfl; have hcz20_1 : w18.cell? ⟨gb351, 1, none⟩ = some (.bool a0_1) := (blk_cell BK351.out 1).trans rfl; have hcz20_2 : w18.cell? ⟨gb351, 2, none⟩ = some (.bool a0_2) := (blk_cell BK351.out 2).trans rfl; have hcz20_3 : w18.cell? ⟨gb351, 3, none⟩ = some (.bool a0_3) := (blk_cell BK351.out 3).trans rfl; have hfz20_0 := blk_frozen BK351.out 0; have hfz20_1 := blk_frozen BK351.out 1; have hfz20_2 := blk_frozen BK351.out 2; have hfz20_3 := blk_frozen BK351.out 3; have hcz21_0 : w18.cell? ⟨gb352, 0, none⟩ = some (.bool false) := (blk_cell BK352.out 0).trans rfl; have hcz21_1 : w18.cell? ⟨gb352, 1, none⟩ = some (.bool false) := (blk_cell BK352.out 1).trans rfl; have hcz21_2 : w18.cell? ⟨gb352, 2, none⟩ = some (.bool false) := (blk_cell BK352.out 2).trans rfl; have hcz21_3 : w18.cell? ⟨gb352, 3, none⟩ = some (.bool false) := (blk_cell BK352.out 3).trans rfl; have hfz21_0 := blk_frozen BK352.out 0; have hfz21_1 := blk_frozen BK352.out 1; have hfz21_2 := blk_frozen BK352.out 2; have hfz21_3 := blk_frozen BK352.out 3))
    refine bodyPost_ret (results_cell_row rfl _ _ gb352 59 #[.bool a0_0, .bool a0_1, .bool a2, .bool a0_3] (0, 0) _ rfl (by (with_reducible repeat (first | refine blk_drewN ?_ _ | refine blk_drew ?_ | refine blk_alloc ?_ _)); refine blk_put (cs := #[.bool a0_0, .bool a0_1, .bool a2, .bool false]) ?_ 3 _ rfl; (with_reducible repeat (first | refine blk_drewN ?_ _ | refine blk_drew ?_ | refine blk_alloc ?_ _)); refine blk_put (cs := #[.bool a0_0, .bool a0_1, .bool false, .bool false]) ?_ 2 _ rfl; (with_reducible repeat (first | refine blk_drewN ?_ _ | refine blk_drew ?_ | refine blk_alloc ?_ _)); refine blk_put (cs := #[.bool a0_0, .bool false, .bool false, .bool false]) ?_ 1 _ rfl; (with_reducible repeat (first | refine blk_drewN ?_ _ | refine blk_drew ?_ | refine blk_alloc ?_ _)); refine blk_put (cs := #[.bool false, .bool false, .bool false, .bool false]) ?_ 0 _ rfl; (with_reducible repeat (first | refine blk_drewN ?_ _ | refine blk_drew ?_ | refine blk_alloc ?_ _)); refine blk_far ?_ NB352_351.out _; (with_reducible repeat (first | refine blk_drewN ?_ _ | refine blk_drew ?_ | refine blk_alloc ?_ _)); exact BK352.out) Tryd.underlying59 rfl (by kernel_rfl)) rfl ?_
    exact ⟨by first | rfl | (simp [errW_none, errW_some] <;> rfl) | (simp [*, errW_none, errW_some] <;> rfl), bw⟩
   ·rw [if_neg c16] at H
    have c16b0 : (a1 == 2) = false := beq_eq_false_iff_ne.mpr c16
    have c16b1 : (a1 != 2) = true := bne_iff_ne.mpr c16
    simp only [Option.some.injEq, Prod.mk.injEq] at H
    obtain ⟨rfl, rfl, rfl, rfl⟩ := H
    go_enter Tryd.func108, Tryd.ntmps108
    go_wp2_with (first | ((with_reducible refine gate_dst (N := 3) rfl ?_); refine box_event ?hg (N := 3) ?hd (cs := #[.bool a0_0, .bool a0_1, .bool a0_2, .bool a0_3]) (t := 59) ?hr ?_; (case hd => rfl); (case hg => rfl); (case hr => first | (go_simp; done) | (go_simp; rfl)); intro gb351 hg w22 hbox hb; have n0_ := Aside0.mk (below_step bw hb); have n1_ := Aside0.mk (hbox); have n2_ := Aside0.mk ((by rw [hg]; exact (below_size bw) : w.heap.size ≤ gb351)); have n3_ := Aside0.mk ((by rw [hg]; exact (below_size bw) : w.heap.size ≤ gb351)); clear HB; have HB := n0_; have BK351 := n1_; have GW351 := n2_; have GE351 := n3_; clear n0_ n1_ n2_ n3_; clear hb hbox hg) | ((with_reducible refine gate_dst (N := 6) rfl ?_); refine box_event ?hg (N := 6) ?hd (cs := #[.bool false, .bool false, .bool false, .bool false]) (t := 59) ?hr ?_; (case hd => rfl); (case hg => rfl); (case hr => first | (go_simp; done) | (go_simp; rfl)); intro gb352 hg w23 hbox hb; have n0_ := bkB BK351 hb; have n1_ := Aside0.mk (below_step bw hb); have n2_ := Aside0.mk (hbox); have n3_ := Aside0.mk ((by rw [hg]; exact (below_size bw) : w.heap.size ≤ gb352)); have n4_ := Aside0.mk ((by rw [hg]; exact (below_size bw) : w.heap.size ≤ gb352)); have n5_ := Aside0.mk ((by rw [hg]; exact Nat.ne_of_lt (blk_lt (g := gb351) (o := .cells #[.bool a0_0, .bool a0_1, .bool a0_2, .bool a0_3] 59 (0, 0)) (bk BK351)) : gb351 ≠ gb352)); have n6_ := Aside0.mk ((by rw [hg]; exact Nat.ne_of_gt (blk_lt (g := gb351) (o := .cells #[.bool a0_0, .bool a0_1, .bool a0_2, .bool a0_3] 59 (0, 0)) (bk BK351)) : gb352 ≠ gb351)); clear BK351 HB; have BK351 := n0_; have HB := n1_; have BK352 := n2_; have GW352 := n3_; have GE352 := n4_; have NB351_352 := n5_; have NB352_351 := n6_; clear n0_ n1_ n2_ n3_ n4_ n5_ n6_; clear hb hbox hg; have hnb24 := NB351_352.out; have hnc24 := NB352_351.out; have hcz25_0 : w23.cell? ⟨gb351, 0, none⟩ = some (.bool a0_0) := (blk_cell BK351.out 0).trans rfl; have hcz25_1 : w23.cell? ⟨gb351, 1, none⟩ = some (.bool a0_1) := (blk_cell BK351.out 1).trans rfl; have hcz25_2 : w23.cell? ⟨gb351, 2, none⟩ = some (.bool a0_2) := (blk_cell BK351.out 2).trans rfl; have hcz25_3 : w23.cell? ⟨gb351, 3, none⟩ = some (.bool a0_3) := (blk_cell BK351.out 3).trans rfl; have hfz25_0 := blk_frozen BK351.out 0; have hfz25_1 := blk_frozen BK351.out 1; have hfz25_2 := blk_frozen BK351.out 2; have hfz25_3 := blk_frozen BK351.out 3; have hcz26_0 : w23.cell? ⟨gb352, 0, none⟩ = some (.bool false) := (blk_cell BK352.out 0).trans rfl; have hcz26_1 : w23.cell? ⟨gb352, 1, none⟩ = some (.bool false) := (blk_cell BK352.out 1).trans rfl; have hcz26_2 : w23.cell? ⟨gb352, 2, none⟩ = some (.bool false) := (blk_cell BK352.out 2).trans rfl; have hcz26_3 : w23.cell? ⟨gb352, 3, none⟩ = some (.bool false) := (blk_cell BK352.out 3).trans rfl; have hfz26_0 := blk_frozen BK352.out 0; have hfz26_1 := blk_frozen BK352.out 1; have hfz26_2 := blk_frozen BK352.out 2; have hfz26_3 := blk_frozen BK352.out 3))
    refine bodyPost_ret (results_cell_row rfl _ _ gb352 59 #[.bool a0_0, .bool a0_1, .bool a0_2, .bool a2] (0, 0) _ rfl (by (with_reducible repeat (first | refine blk_drewN ?_ _ | refine blk_drew ?_ | refine blk_alloc ?_ _)); refine blk_put (cs := #[.bool a0_0, .bool a0_1, .bool a0_2, .bool false]) ?_ 3 _ rfl; (with_reducible repeat (first | refine blk_drewN ?_ _ | refine blk_drew ?_ | refine blk_alloc ?_ _)); refine blk_put (cs := #[.bool a0_0, .bool a0_1, .bool false, .bool false]) ?_ 2 _ rfl; (with_reducible repeat (first | refine blk_drewN ?_ _ | refine blk_drew ?_ | refine blk_alloc ?_ _)); refine blk_put (cs := #[.bool a0_0, .bool false, .bool false, .bool false]) ?_ 1 _ rfl; (with_reducible repeat (first | refine blk_drewN ?_ _ | refine blk_drew ?_ | refine blk_alloc ?_ _)); refine blk_put (cs := #[.bool false, .bool false, .bool false, .bool false]) ?_ 0 _ rfl; (with_reducible repeat (first | refine blk_drewN ?_ _ | refine blk_drew ?_ | refine blk_alloc ?_ _)); refine blk_far ?_ NB352_351.out _; (with_reducible repeat (first | refine blk_drewN ?_ _ | refine blk_drew ?_ | refine blk_alloc ?_ _)); exact BK352.out) Tryd.underlying59 rfl (by kernel_rfl)) rfl ?_
    exact ⟨by first | rfl | (simp [errW_none, errW_some] <;> rfl) | (simp [*, errW_none, errW_some] <;> rfl), bw⟩

/-! ### spec_BayDo: function 63 -/
def spec_BayDo.f (a0_0 : Bool) (a0_1 : Bool) (a0_2 : Bool) (a0_3 : Bool) (a1 : Int) : Option (Bool × Bool × Bool × Bool × Bool) := (spec_BayMay.f a0_0 a0_1 a0_2 a0_3 a1).bind fun t355 => (if t355 = true then ((spec_l9Set.f a0_0 a0_1 a0_2 a0_3 (wrap64 (Int.tdiv a1 2)) ((Int.tmod a1 2) == 1)).bind fun bt356 => (some (bt356.1, bt356.2.1, bt356.2.2.1, bt356.2.2.2, true))) else (some (a0_0, a0_1, a0_2, a0_3, false)))
set_option maxHeartbeats 8000000 in
set_option maxRecDepth 100000 in
theorem spec_BayDo.calls (a0_0 : Bool) (a0_1 : Bool) (a0_2 : Bool) (a0_3 : Bool) (a1 : Int) (r1 : Bool) (r2 : Bool) (r3 : Bool) (r4 : Bool) (r5 : Bool) (w : World) (h : spec_BayDo.f a0_0 a0_1 a0_2 a0_3 a1 = some (r1, r2, r3, r4, r5)) :
  Calls Tryd.prog 63 #[.agg #[.bool a0_0, .bool a0_1, .bool a0_2, .bool a0_3], .int .i64 a1] w fun e w' => e = .returned (.tuple #[.agg #[.bool r1, .bool r2, .bool r3, .bool r4], .bool r5]) ∧ Below w.heap.size w w' := by
 have hu59 := Tryd.underlying59
 have HB := Aside0.mk (Below.refl w.heap.size w)
 have H : ((spec_BayMay.f a0_0 a0_1 a0_2 a0_3 a1).bind fun t355 => (if t355 = true then ((spec_l9Set.f a0_0 a0_1 a0_2 a0_3 (wrap64 (Int.tdiv a1 2)) ((Int.tmod a1 2) == 1)).bind fun bt356 => (some (bt356.1, bt356.2.1, bt356.2.2.1, bt356.2.2.2, true))) else (some (a0_0, a0_1, a0_2, a0_3, false)))) = some (r1, r2, r3, r4, r5) := h
 clear h
 replace H := Option.bind_eq_some_iff.mp H
 obtain ⟨t355, A30, H⟩ := H
 replace H : (if t355 = true then ((spec_l9Set.f a0_0 a0_1 a0_2 a0_3 (wrap64 (Int.tdiv a1 2)) ((Int.tmod a1 2) == 1)).bind fun bt356 => (some (bt356.1, bt356.2.1, bt356.2.2.1, bt356.2.2.2, true))) else (some (a0_0, a0_1, a0_2, a0_3, false))) = some (r1, r2, r3, r4, r5) := H
 have A3 := Aside0.mk A30
 clear A30
 by_cases c4 : t355 = true
 ·subst c4
  have H1 : ((spec_l9Set.f a0_0 a0_1 a0_2 a0_3 (wrap64 (Int.tdiv a1 2)) ((Int.tmod a1 2) == 1)).bind fun bt356 => (some (bt356.1, bt356.2.1, bt356.2.2.1, bt356.2.2.2, true))) = some (r1, r2, r3, r4, r5) := by rw [if_pos rfl] at H; exact H
  clear H
  have H := H1
  clear H1
  replace H := Option.bind_eq_some_iff.mp H
  obtain ⟨⟨t356, t357, t358, t359⟩, A50, H⟩ := H
  replace H : (some (t356, t357, t358, t359, true)) = some (r1, r2, r3, r4, r5) := H
  have A5 := Aside0.mk A50
  clear A50
  simp only [Option.some.injEq, Prod.mk.injEq] at H
  obtain ⟨rfl, rfl, rfl, rfl, rfl⟩ := H
  go_enter Tryd.func63, Tryd.ntmps63
  have TK0_ := Aside0.mk trivial
  go_wp2_with (first | (clear TK0_; (with_reducible refine gate_dst (N := 2) rfl ?_); refine box_event ?hg (N := 2) ?hd (cs := #[.bool a0_0, .bool a0_1, .bool a0_2, .bool a0_3]) (t := 59) ?hr ?_; (case hd => rfl); (case hg => rfl); (case hr => first | (go_simp; done) | (go_simp; rfl)); intro gb353 hg w6 hbox hb; have n0_ := Aside0.mk (below_step bw hb); have n1_ := Aside0.mk (hbox); have n2_ := Aside0.mk ((by rw [hg]; exact (below_size bw) : w.heap.size ≤ gb353)); have n3_ := Aside0.mk ((by rw [hg]; exact (below_size bw) : w.heap.size ≤ gb353)); clear HB; have HB := n0_; have BK353 := n1_; have GW353 := n2_; have GE353 := n3_; clear n0_ n1_ n2_ n3_; clear hb hbox hg; have TK1_ := Aside0.mk trivial) | (clear TK1_; (with_reducible refine gate_dst (N := 4) rfl ?_); refine box_event ?hg (N := 4) ?hd (cs := #[.bool false, .bool false, .bool false, .bool false]) (t := 59) ?hr ?_; (case hd => rfl); (case hg => rfl); (case hr => first | (go_simp; done) | (go_simp; rfl)); intro gb354 hg w7 hbox hb; have n0_ := bkB BK353 hb; have n1_ := Aside0.mk (below_step bw hb); have n2_ := Aside0.mk (hbox); have n3_ := Aside0.mk ((by rw [hg]; exact (below_size bw) : w.heap.size ≤ gb354)); have n4_ := Aside0.mk ((by rw [hg]; exact (below_size bw) : w.heap.size ≤ gb354)); have n5_ := Aside0.mk ((by rw [hg]; exact Nat.ne_of_lt (blk_lt (g := gb353) (o := .cells #[.bool a0_0, .bool a0_1, .bool a0_2, .bool a0_3] 59 (0, 0)) (bk BK353)) : gb353 ≠ gb354)); have n6_ := Aside0.mk ((by rw [hg]; exact Nat.ne_of_gt (blk_lt (g := gb353) (o := .cells #[.bool a0_0, .bool a0_1, .bool a0_2, .bool a0_3] 59 (0, 0)) (bk BK353)) : gb354 ≠ gb353)); clear BK353 HB; have BK353 := n0_; have HB := n1_; have BK354 := n2_; have GW354 := n3_; have GE354 := n4_; have NB353_354 := n5_; have NB354_353 := n6_; clear n0_ n1_ n2_ n3_ n4_ n5_ n6_; clear hb hbox hg; have hnb8 := NB353_354.out; have hnc8 := NB354_353.out; have hcz9_0 : w7.cell? ⟨gb353, 0, none⟩ = some (.bool a0_0) := (blk_cell BK353.out 0).trans rfl; have hcz9_1 : w7.cell? ⟨gb353, 1, none⟩ = some (.bool a0_1) := (blk_cell BK353.out 1).trans rfl; have hcz9_2 : w7.cell? ⟨gb353, 2, none⟩ = some (.bool a0_2) := (blk_cell BK353.out 2).trans rfl; have hcz9_3 : w7.cell? ⟨gb353, 3, none⟩ = some (.bool a0_3) := (blk_cell BK353.out 3).trans rfl; have hfz9_0 := blk_frozen BK353.out 0; have hfz9_1 := blk_frozen BK353.out 1; have hfz9_2 := blk_frozen BK353.out 2; have hfz9_3 := blk_frozen BK353.out 3; have TK2_ := Aside0.mk trivial) | (clear TK2_; (with_reducible refine gate_callee (f := 56) rfl ?_); refine goesL_ (some 8) rfl rfl Tryd.func56 (by kernel_rfl) rfl #[.agg #[.bool a0_0, .bool a0_1, .bool a0_2, .bool a0_3], .int .i64 a1] rfl (by (try simp only [List.map_toArray, List.map_cons, List.map_nil]); first | done | rfl | (simp only [List.length_drop, List.length_take]; rfl)) ?_; (with_reducible refine (spec_BayMay.calls a0_0 a0_1 a0_2 a0_3 a1 true _ A3.out).mono ?_); rintro e w10 ⟨rfl, hb⟩; refine ⟨_, rfl, ?_⟩; have n0_ := bkB BK353 hb; have n1_ := bkB BK354 hb; have n2_ := Aside0.mk (below_step bw hb); clear BK353 BK354 HB; have BK353 := n0_; have BK354 := n1_; have HB := n2_; clear n0_ n1_ n2_; (try clear hb); (try clear hb2); (try clear hk); (try clear hi); have hcz11_0 : w10.cell? ⟨gb353, 0, none⟩ = some (.bool a0_0) := (blk_cell BK353.out 0).trans rfl; have hcz11_1 : w10.cell? ⟨gb353, 1, none⟩ = some (.bool a0_1) := (blk_cell BK353.out 1).trans rfl; have hcz11_2 : w10.cell? ⟨gb353, 2, none⟩ = some (.bool a0_2) := (blk_cell BK353.out 2).trans rfl; have hcz11_3 : w10.cell? ⟨gb353, 3, none⟩ = some (.bool a0_3) := (blk_cell BK353.out 3).trans rfl; have hfz11_0 := blk_frozen BK353.out 0; have hfz11_1 := blk_frozen BK353.out 1; have hfz11_2 := blk_frozen BK353.out 2; have hfz11_3 := blk_frozen BK353.out 3; have TK3_ := Aside0.mk trivial) | (clear TK3_; (with_reducible refine gate_callee (f := 108) rfl ?_); refine goesL_ (some 17) rfl rfl Tryd.func108 (by kernel_rfl) rfl #[.agg #[.bool a0_0, .bool a0_1, .bool a0_2, .bool a0_3], .int .i64 (wrap64 (Int.tdiv a1 2)), .bool ((Int.tmod a1 2) == 1)] rfl (by (try simp only [List.map_toArray, List.map_cons, List.map_nil]); first | done | rfl | (simp only [List.length_drop, List.length_take]; rfl)) ?_; (with_reducible refine (spec_l9Set.calls a0_0 a0_1 a0_2 a0_3 (wrap64 (Int.tdiv a1 2)) ((Int.tmod a1 2) == 1) t356 t357 t358 t359 _ A5.out).mono ?_); rintro e w12 ⟨rfl, hb⟩; refine ⟨_, rfl, ?_⟩; have n0_ := bkB BK353 hb; have n1_ := bkB BK354 hb; have n2_ := Aside0.mk (below_step bw hb); clear BK353 BK354 HB; have BK353 := n0_; have BK354 := n1_; have HB := n2_; clear n0_ n1_ n2_; (try clear hb); (try clear hb2); (try clear hk); (try clear hi); have hcz13_0 : w12.cell? ⟨gb354, 0, none⟩ = some (.bool false) := (blk_cell BK354.out 0).trans rfl; have hcz13_1 : w12.cell? ⟨gb354, 1, none⟩ = some (.bool false) := (blk_cell BK354.out 1).trans rfl; have hcz13_2 : w12.cell? ⟨gb354, 2, none⟩ = some (.bool false) := (blk_cell BK354.out 2).trans rfl; have hcz13_3 : w12.cell? ⟨gb354, 3, none⟩ = some (.bool false) := (blk_cell BK354.out 3).trans rfl; have hfz13_0 := blk_frozen BK354.out 0; have hfz13_1 := blk_frozen BK354.out 1; have hfz13_2 := blk_frozen BK354.out 2; have hfz13_3 := blk_frozen BK354.out 3; have TK4_ := Aside0.mk trivial))
  refine bodyPost_ret (results_ct rfl _ _ gb354 59 #[.bool t356, .bool t357, .bool t358, .bool t359] (0, 0) _ rfl (by (with_reducible repeat (first | refine blk_drewN ?_ _ | refine blk_drew ?_ | refine blk_alloc ?_ _)); refine blk_put (cs := #[.bool t356, .bool t357, .bool t358, .bool false]) ?_ 3 _ rfl; (with_reducible repeat (first | refine blk_drewN ?_ _ | refine blk_drew ?_ | refine blk_alloc ?_ _)); refine blk_put (cs := #[.bool t356, .bool t357, .bool false, .bool false]) ?_ 2 _ rfl; (with_reducible repeat (first | refine blk_drewN ?_ _ | refine blk_drew ?_ | refine blk_alloc ?_ _)); refine blk_put (cs := #[.bool t356, .bool false, .bool false, .bool false]) ?_ 1 _ rfl; (with_reducible repeat (first | refine blk_drewN ?_ _ | refine blk_drew ?_ | refine blk_alloc ?_ _)); refine blk_put (cs := #[.bool false, .bool false, .bool false, .bool false]) ?_ 0 _ rfl; (with_reducible repeat (first | refine blk_drewN ?_ _ | refine blk_drew ?_ | refine blk_alloc ?_ _)); exact BK354.out) Tryd.underlying59 rfl (by kernel_rfl)) rfl ?_
  exact ⟨by first | rfl | (simp [errW_none, errW_some] <;> rfl) | (simp [*, errW_none, errW_some] <;> rfl), bw⟩
 ·replace c4 := Bool.eq_false_iff.mpr c4
  subst c4
  have H1 : (some (a0_0, a0_1, a0_2, a0_3, false)) = some (r1, r2, r3, r4, r5) := by rw [if_neg (show ¬ (false = true) by decide)] at H; exact H
  clear H
  have H := H1
  clear H1
  simp only [Option.some.injEq, Prod.mk.injEq] at H
  obtain ⟨rfl, rfl, rfl, rfl, rfl⟩ := H
  go_enter Tryd.func63, Tryd.ntmps63
  have TK0_ := Aside0.mk trivial
  go_wp2_with (first | (clear TK0_; (with_reducible refine gate_dst (N := 2) rfl ?_); refine box_event ?hg (N := 2) ?hd (cs := #[.bool a0_0, .bool a0_1, .bool a0_2, .bool a0_3]) (t := 59) ?hr ?_; (case hd => rfl); (case hg => rfl); (case hr => first | (go_simp; done) | (go_simp; rfl)); intro gb353 hg w14 hbox hb; have n0_ := Aside0.mk (below_step bw hb); have n1_ := Aside0.mk (hbox); have n2_ := Aside0.mk ((by rw [hg]; exact (below_size bw) : w.heap.size ≤ gb353)); have n3_ := Aside0.mk ((by rw [hg]; exact (below_size bw) : w.heap.size ≤ gb353)); clear HB; have HB := n0_; have BK353 := n1_; have GW353 := n2_; have GE353 := n3_; clear n0_ n1_ n2_ n3_; clear hb hbox hg; have TK1_ := Aside0.mk trivial) | (clear TK1_; (with_reducible refine gate_dst (N := 4) rfl ?_); refine box_event ?hg (N := 4) ?hd (cs := #[.bool false, .bool false, .bool false, .bool false]) (t := 59) ?hr ?_; (case hd => rfl); (case hg => rfl); (case hr => first | (go_simp; done) | (go_simp; rfl)); intro gb354 hg w15 hbox hb; have n0_ := bkB BK353 hb; have n1_ := Aside0.mk (below_step bw hb); have n2_ := Aside0.mk (hbox); have n3_ := Aside0.mk ((by rw [hg]; exact (below_size bw) : w.heap.size ≤ gb354)); have n4_ := Aside0.mk ((by rw [hg]; exact (below_size bw) : w.heap.size ≤ gb354)); have n5_ := Aside0.mk ((by rw [hg]; exact Nat.ne_of_lt (blk_lt (g := gb353) (o := .cells #[.bool a0_0, .bool a0_1, .bool a0_2, .bool a0_3] 59 (0, 0)) (bk BK353)) : gb353 ≠ gb354)); have n6_ := Aside0.mk ((by rw [hg]; exact Nat.ne_of_gt (blk_lt (g := gb353) (o := .cells #[.bool a0_0, .bool a0_1, .bool a0_2, .bool a0_3] 59 (0, 0)) (bk BK353)) : gb354 ≠ gb353)); clear BK353 HB; have BK353 := n0_; have HB := n1_; have BK354 := n2_; have GW354 := n3_; have GE354 := n4_; have NB353_354 := n5_; have NB354_353 := n6_; clear n0_ n1_ n2_ n3_ n4_ n5_ n6_; clear hb hbox hg; have hnb16 := NB353_354.out; have hnc16 := NB354_353.out; have hcz17_0 : w15.cell? ⟨gb353, 0, none⟩ = some (.bool a0_0) := (blk_cell BK353.out 0).trans rfl; have hcz17_1 : w15.cell? ⟨gb353, 1, none⟩ = some (.bool a0_1) := (blk_cell BK353.out 1).trans rfl; have hcz17_2 : w15.cell? ⟨gb353, 2, none⟩ = some (.bool a0_2) := (blk_cell BK353.out 2).trans rfl; have hcz17_3 : w15.cell? ⟨gb353, 3, none⟩ = some (.bool a0_3) := (blk_cell BK353.out 3).trans rfl; have hfz17_0 := blk_frozen BK353.out 0; have hfz17_1 := blk_frozen BK353.out 1; have hfz17_2 := blk_frozen BK353.out 2; have hfz17_3 := blk_frozen BK353.out 3; have TK2_ := Aside0.mk trivial) | (clear TK2_; (with_reducible refine gate_callee (f := 56) rfl ?_); refine goesL_ (some 8) rfl rfl Tryd.func56 (by kernel_rfl) rfl #[.agg #[.bool a0_0, .bool a0_1, .bool a0_2, .bool a0_3], .int .i64 a1] rfl (by (try simp only [List.map_toArray, List.map_cons, List.map_nil]); first | done | rfl | (simp only [List.length_drop, List.length_take]; rfl)) ?_; (with_reducible refine (spec_BayMay.calls a0_0 a0_1 a0_2 a0_3 a1 false _ A3.out).mono ?_); rintro e w18 ⟨rfl, hb⟩; refine ⟨_, rfl, ?_⟩; have n0_ := bkB BK353 hb; have n1_ := bkB BK354 hb; have n2_ := Aside0.mk (below_step bw hb); clear BK353 BK354 HB; have BK353 := n0_; have BK354 := n1_; have HB := n2_; clear n0_ n1_ n2_; (try clear hb); (try clear hb2); (try clear hk); (try clear hi); have hcz19_0 : w18.cell? ⟨gb353, 0, none⟩ = some (.bool a0_0) := (blk_cell BK353.out 0).trans rfl; have hcz19_1 : w18.cell? ⟨gb353, 1, none⟩ = some (.bool a0_1) := (blk_cell BK353.out 1).trans rfl; have hcz19_2 : w18.cell? ⟨gb353, 2, none⟩ = some (.bool a0_2) := (blk_cell BK353.out 2).trans rfl; have hcz19_3 : w18.cell? ⟨gb353, 3, none⟩ = some (.bool a0_3) := (blk_cell BK353.out 3).trans rfl; have hfz19_0 := blk_frozen BK353.out 0; have hfz19_1 := blk_frozen BK353.out 1; have hfz19_2 := blk_frozen BK353.out 2; have hfz19_3 := blk_frozen BK353.out 3; have hcz20_0 : w18.cell? ⟨gb354, 0, none⟩ = some (.bool false) := (blk_cell BK354.out 0).trans rfl; have hcz20_1 : w18.cell? ⟨gb354, 1, none⟩ = some (.bool false) := (blk_cell BK354.out 1).trans rfl; have hcz20_2 : w18.cell? ⟨gb354, 2, none⟩ = some (.bool false) := (blk_cell BK354.out 2).trans rfl; have hcz20_3 : w18.cell? ⟨gb354, 3, none⟩ = some (.bool false) := (blk_cell BK354.out 3).trans rfl; have hfz20_0 := blk_frozen BK354.out 0; have hfz20_1 := blk_frozen BK354.out 1; have hfz20_2 := blk_frozen BK354.out 2; have hfz20_3 := blk_frozen BK354.out 3; have TK3_ := Aside0.mk trivial))
  refine bodyPost_ret (results_ct rfl _ _ gb354 59 #[.bool a0_0, .bool a0_1, .bool a0_2, .bool a0_3] (0, 0) _ rfl (by (with_reducible repeat (first | refine blk_drewN ?_ _ | refine blk_drew ?_ | refine blk_alloc ?_ _)); refine blk_put (cs := #[.bool a0_0, .bool a0_1, .bool a0_2, .bool false]) ?_ 3 _ rfl; (with_reducible repeat (first | refine blk_drewN ?_ _ | refine blk_drew ?_ | refine blk_alloc ?_ _)); refine blk_put (cs := #[.bool a0_0, .bool a0_1, .bool false, .bool false]) ?_ 2 _ rfl; (with_reducible repeat (first | refine blk_drewN ?_ _ | refine blk_drew ?_ | refine blk_alloc ?_ _)); refine blk_put (cs := #[.bool a0_0, .bool false, .bool false, .bool false]) ?_ 1 _ rfl; (with_reducible repeat (first | refine blk_drewN ?_ _ | refine blk_drew ?_ | refine blk_alloc ?_ _)); refine blk_put (cs := #[.bool false, .bool false, .bool false, .bool false]) ?_ 0 _ rfl; (with_reducible repeat (first | refine blk_drewN ?_ _ | refine blk_drew ?_ | refine blk_alloc ?_ _)); exact BK354.out) Tryd.underlying59 rfl (by kernel_rfl)) rfl ?_
  exact ⟨by first | rfl | (simp [errW_none, errW_some] <;> rfl) | (simp [*, errW_none, errW_some] <;> rfl), bw⟩

-- NOT PRINTED: function 13 (laws_FnBayDo)

/-! ### spec_l20Deeds: function 109 -/
def spec_l20Deeds.l0 : Nat → List Int → Int → List Int → Int → Option (List Int × Int)
 | 0, _, _, _, _ => none
 | k + 1, x3, x4, x1000, x1001 => if x4 > 0 then ((spec_l20Rd_pick.f k x1000 x1001 9).bind fun bt365 => ((spec_l20Rd_pick.f k x1000 bt365.2 9).bind fun bt367 => (if x3.length < 17592186044416 then (spec_l20Deeds.l0 k (x3 ++ [wrap64 (bt365.1 - (wrap64 (Int.tdiv bt367.1 8)))]) (wrap64 (x4 - 1)) x1000 bt367.2) else (none)))) else (some (x3, x1001))
def spec_l20Deeds.f (k : Nat) (s0_0 : List Int) (s0_1 : Int) : Option (List Int × Int) := (spec_l20Rd_pick.f k s0_0 s0_1 9).bind fun bt363 => (spec_l20Deeds.l0 k (([] : List Int)) bt363.1 s0_0 bt363.2)
theorem spec_l20Deeds.mono_l : ∀ k, (∀ y0 y1 y2 y3, LeO (spec_l20Deeds.l0 k y0 y1 y2 y3) (spec_l20Deeds.l0 (k + 1) y0 y1 y2 y3))
 | 0 => fun _ _ _ _ r h => by simp [spec_l20Deeds.l0] at h
 | k + 1 => by
  have ih0 := spec_l20Deeds.mono_l k
  ·intro y0 y1 y2 y3
   unfold spec_l20Deeds.l0
   repeat' first
   | (with_reducible exact ih0 _ _ _ _)
   | (with_reducible exact spec_l20Rd_pick.mono _ _ _ _)
   | (with_reducible exact LeO.refl _)
   | (with_reducible exact LeO.none _)
   | (with_reducible refine LeO.ite ?_ ?_)
   | (with_reducible refine LeO.bind ?_ (fun _ => ?_))
   | exact ih0 _ _ _ _
   | exact spec_l20Rd_pick.mono _ _ _ _
   | exact LeO.none _
   | refine LeO.ite ?_ ?_
   | refine LeO.bind ?_ (fun _ => ?_)
theorem spec_l20Deeds.mono : ∀ a0 a1 k, LeO (spec_l20Deeds.f k a0 a1) (spec_l20Deeds.f (k + 1) a0 a1) := by
 intro a0 a1 k
 have ih0 := spec_l20Deeds.mono_l k
 unfold spec_l20Deeds.f
 repeat' first
   | (with_reducible exact ih0 _ _ _ _)
   | (with_reducible exact spec_l20Rd_pick.mono _ _ _ _)
   | (with_reducible exact LeO.refl _)
   | (with_reducible exact LeO.none _)
   | (with_reducible refine LeO.ite ?_ ?_)
   | (with_reducible refine LeO.bind ?_ (fun _ => ?_))
   | exact ih0 _ _ _ _
   | exact spec_l20Rd_pick.mono _ _ _ _
   | exact LeO.none _
   | refine LeO.ite ?_ ?_
   | refine LeO.bind ?_ (fun _ => ?_)
set_option maxHeartbeats 8000000 in
set_option maxRecDepth 100000 in
theorem spec_l20Deeds.calls (k : Nat) (g : Nat) (s0_0 : List Int) (s0_1 : Int) (r1 : List Int) (r2 : Int) (w0 w : World) (hI : IsS133 w0 w g s0_0 s0_1) (hB : Below w0.heap.size w0 w) (h : spec_l20Deeds.f k s0_0 s0_1 = some (r1, r2)) :
  Calls Tryd.prog 109 #[.pointer (some ⟨g, 0, none⟩)] w fun e w' => ∃ v0_ : Value, e = .returned (v0_) ∧ Kd.R (Kd.int .i64) 3 w' w.heap.size (fun _ => True) v0_ r1 ∧ IsS133 w0 w' g s0_0 r2 ∧ Below w0.heap.size w0 w' ∧ KeepBut w w' g none := by
 have HI0 := Aside0.mk hI
 have HK := Aside0.mk (KeepBut.refl w g none)
 have HL := Aside0.mk hB.size
 clear hI
 have HW0 := Aside0.mk hB.size
 have HB := Aside0.mk hB
 clear hB
 have H : ((spec_l20Rd_pick.f k s0_0 s0_1 9).bind fun bt363 => (spec_l20Deeds.l0 k (([] : List Int)) bt363.1 s0_0 bt363.2)) = some (r1, r2) := h
 clear h
 obtain ⟨y360, hy360⟩ : ∃ y_ : List Int, y_ = (([] : List Int)) := ⟨_, rfl⟩
 replace H : ((spec_l20Rd_pick.f k s0_0 s0_1 9).bind fun bt363 => (spec_l20Deeds.l0 k y360 bt363.1 s0_0 bt363.2)) = some (r1, r2) := by first | (rw [hy360]; with_reducible exact H) | (have H2_ := (Option.bind_some _ _).symm.trans H; rw [hy360]; with_reducible exact H2_) | (have H2_ := (Option.bind_some _ _).symm.trans H; with_reducible exact H2_) | with_reducible exact H | (rw [hy360]; exact H) | exact H
 have Ny360 := Aside0.mk hy360
 clear hy360
 replace H := Option.bind_eq_some_iff.mp H
 obtain ⟨⟨t363, t364⟩, A20, H⟩ := H
 replace H : (spec_l20Deeds.l0 k y360 t363 s0_0 t364) = some (r1, r2) := H
 have A2 := Aside0.mk A20
 clear A20
 have H' := Aside0.mk H
 clear H
 go_enter Tryd.func109, Tryd.ntmps109
 go_wp2_with (first | ((with_reducible refine gate_dst (N := 5) rfl ?_); refine Kd.R_lit (Kd.int .i64) _ 3 ?hg (N := 5) ?hd (xs := ([] : List Int)) (inner := []) (ok := fun _ => True) (okp := fun _ => True) ?hr ?hp (fun _ hk => by first | exact hk | grind) trivial (Below.refl _ _) (Nat.le_refl _) (by simp) ?_; (case hd => rfl); (case hg => rfl); (case hr => first | (go_simp; done) | (go_simp; rfl)); (case hp => exact (Reps.none _ _)); intro v361 w3 ho4 hb hg_ hnew_; clear hg_ hnew_; (first | rw [← Ny360.out] at ho4 | (simp only [Int.reduceToNat] at ho4; rw [← Ny360.out] at ho4)); have n0_ := Aside0.mk (Kd.R_lower ho4 (keep_size (w := w) (g := g) (row := none) (by repeat (first | (with_reducible first | exact HK.out | apply KeepBut.set_ | apply keep_drewN | apply keep_drew | apply keep_alloc) | exact HK.out)))); have n1_ := Aside0.mk (IsS133.below (by repeat (first | (with_reducible first | exact HI0.out | apply IsS133.alloc | apply IsS133.drewN | apply IsS133.drew | apply IsS133.set_1) | exact HI0.out)) hb); have n2_ := Aside0.mk (KeepBut.trans (by repeat (first | (with_reducible first | exact HK.out | apply KeepBut.set_ | apply keep_drewN | apply keep_drew | apply keep_alloc) | exact HK.out)) (KeepBut.of_below hb g none) (.inl rfl)); have n3_ := Aside0.mk (below_step (by repeat (first | (with_reducible first | exact HB.out | apply below_alloc | apply pw_below_drewN | apply below_drew1 | refine below_set ?_ (IsS133.ge HI0.out)) | exact HB.out)) hb); clear HI0 HK HB; have HO362 := n0_; have HI0 := n1_; have HK := n2_; have HB := n3_; clear n0_ n1_ n2_ n3_; clear hb ho4) | ((with_reducible refine gate_callee (f := 80) rfl ?_); refine goesL_ (some 7) rfl rfl Tryd.func80 (by kernel_rfl) rfl #[.pointer (some ⟨g, 0, none⟩), .int .i64 9] rfl (by (try simp only [List.map_toArray, List.map_cons, List.map_nil]); first | done | rfl | (simp only [List.length_drop, List.length_take]; rfl)) ?_; (with_reducible refine (spec_l20Rd_pick.calls k g s0_0 s0_1 9 t363 t364 w0 _ ?side1 ?side2 A2.out).mono ?_); (case side1 => repeat (first | (with_reducible first | exact HI0.out | apply IsS133.alloc | apply IsS133.drewN | apply IsS133.drew | apply IsS133.set_1) | exact HI0.out)); (case side2 => repeat (first | (with_reducible first | exact HB.out | apply below_alloc | apply pw_below_drewN | apply below_drew1 | refine below_set ?_ (IsS133.ge HI0.out)) | exact HB.out)); rintro e w5 ⟨rfl, hi, hb, hk⟩; refine ⟨_, rfl, ?_⟩; have n0_ := Aside0.mk (Kd.R_mono (Kd.R_keep (IsS133.apart (show IsS133 w0 _ g s0_0 s0_1 from by repeat (first | (with_reducible first | exact HI0.out | apply IsS133.alloc | apply IsS133.drewN | apply IsS133.drew | apply IsS133.set_1) | exact HI0.out)) (rk HO362) (by decide)) hk (fun _ h => h.2)) (fun _ h => h.1)); have n1_ := Aside0.mk (KeepBut.trans (by repeat (first | (with_reducible first | exact HK.out | apply KeepBut.set_ | apply keep_drewN | apply keep_drew | apply keep_alloc) | exact HK.out)) hk (.inl rfl)); have n2_ := Aside0.mk (hb); have n3_ := Aside0.mk (hi); clear HO362 HK HB HI0; have HO362 := n0_; have HK := n1_; have HB := n2_; have HI0 := n3_; clear n0_ n1_ n2_ n3_; (try clear hb); (try clear hb2); (try clear hk); (try clear hi)))
 go_loopg [3, 4] k (fun kq v3 v4 w' => ∃ (x3_1 : List Int) (x4_1 : Int) (x1001_1 : Int), v4 = .int .i64 x4_1 ∧ Aside0 (spec_l20Deeds.l0 kq x3_1 x4_1 s0_0 x1001_1 = some (r1, r2)) ∧ Aside0 (kq ≤ k) ∧ Aside0 (Kd.R (Kd.int .i64) 3 w' w.heap.size (fun _ => True) v3 x3_1) ∧ Aside0 (IsS133 w0 w' g s0_0 x1001_1) ∧ Aside0 (KeepBut w w' g none) ∧ Aside0 (Below w0.heap.size w0 w'))
 case atStart => exact ⟨(y360), (t363), (t364), (by first | rfl | (simp; done) | (simp [*]; done)), H', ⟨Nat.le_refl _⟩, ⟨rk HO362⟩, ⟨by repeat (first | (with_reducible first | exact HI0.out | apply IsS133.alloc | apply IsS133.drewN | apply IsS133.drew | apply IsS133.set_1) | exact HI0.out)⟩, ⟨by repeat (first | (with_reducible first | exact HK.out | apply KeepBut.set_ | apply keep_drewN | apply keep_drew | apply keep_alloc) | exact HK.out)⟩, ⟨by repeat (first | (with_reducible first | exact HB.out | apply below_alloc | apply pw_below_drewN | apply below_drew1 | refine below_set ?_ (IsS133.ge HI0.out)) | exact HB.out)⟩⟩
 case round =>
  clear H'
  try clear c1
  try clear p2
  obtain ⟨x3_1, x4_1, x1001_1, rfl, HA, HK1, HO_3, HI0, HK, HB⟩ := hrel
  cases gk with
  | zero => exact absurd HA.out (by simp [spec_l20Deeds.l0])
  | succ k1 =>
   have H := HA.out
   clear HA
   simp only [spec_l20Deeds.l0] at H
   by_cases c6 : x4_1 > 0
   ·rw [if_pos c6] at H
    have c6b0 : decide (0 < x4_1) = true := decide_eq_true c6
    clear c6
    replace H := Option.bind_eq_some_iff.mp H
    obtain ⟨⟨t365, t366⟩, A70, H⟩ := H
    replace H : ((spec_l20Rd_pick.f k1 s0_0 t366 9).bind fun bt367 => (if x3_1.length < 17592186044416 then (spec_l20Deeds.l0 k1 (x3_1 ++ [wrap64 (t365 - (wrap64 (Int.tdiv bt367.1 8)))]) (wrap64 (x4_1 - 1)) s0_0 bt367.2) else (none))) = some (r1, r2) := H
    have A7 := Aside0.mk A70
    clear A70
    replace H := Option.bind_eq_some_iff.mp H
    obtain ⟨⟨t367, t368⟩, A80, H⟩ := H
    replace H : (if x3_1.length < 17592186044416 then (spec_l20Deeds.l0 k1 (x3_1 ++ [wrap64 (t365 - (wrap64 (Int.tdiv t367 8)))]) (wrap64 (x4_1 - 1)) s0_0 t368) else (none)) = some (r1, r2) := H
    have A8 := Aside0.mk A80
    clear A80
    by_cases c9 : x3_1.length < 17592186044416
    ·rw [if_pos c9] at H
     have LMc9 := Aside0.mk c9
     clear c9
     obtain ⟨y369, hy369⟩ : ∃ y_ : List Int, y_ = (x3_1 ++ [wrap64 (t365 - (wrap64 (Int.tdiv t367 8)))]) := ⟨_, rfl⟩
     replace H : (spec_l20Deeds.l0 k1 y369 (wrap64 (x4_1 - 1)) s0_0 t368) = some (r1, r2) := by first | (rw [hy369]; with_reducible exact H) | (have H2_ := (Option.bind_some _ _).symm.trans H; rw [hy369]; with_reducible exact H2_) | (have H2_ := (Option.bind_some _ _).symm.trans H; with_reducible exact H2_) | with_reducible exact H | (rw [hy369]; exact H) | exact H
     have Ny369 := Aside0.mk hy369
     clear hy369
     have H' := Aside0.mk H
     clear H
     have TK0_ := Aside0.mk trivial
     go_wp2_with (first | (clear TK0_; (with_reducible refine gate_callee (f := 80) rfl ?_); refine goesL_ (some 14) rfl rfl Tryd.func80 (by kernel_rfl) rfl #[.pointer (some ⟨g, 0, none⟩), .int .i64 9] rfl (by (try simp only [List.map_toArray, List.map_cons, List.map_nil]); first | done | rfl | (simp only [List.length_drop, List.length_take]; rfl)) ?_; (with_reducible refine (spec_l20Rd_pick.calls k1 g s0_0 x1001_1 9 t365 t366 w0 _ ?side1 ?side2 A7.out).mono ?_); (case side1 => repeat (first | (with_reducible first | exact HI0.out | apply IsS133.alloc | apply IsS133.drewN | apply IsS133.drew | apply IsS133.set_1) | exact HI0.out)); (case side2 => repeat (first | (with_reducible first | exact HB.out | apply below_alloc | apply pw_below_drewN | apply below_drew1 | refine below_set ?_ (IsS133.ge HI0.out)) | exact HB.out)); rintro e w10 ⟨rfl, hi, hb, hk⟩; refine ⟨_, rfl, ?_⟩; have n0_ := Aside0.mk (Kd.R_mono (Kd.R_keep (IsS133.apart (show IsS133 w0 _ g s0_0 x1001_1 from by repeat (first | (with_reducible first | exact HI0.out | apply IsS133.alloc | apply IsS133.drewN | apply IsS133.drew | apply IsS133.set_1) | exact HI0.out)) (rk HO_3) (by decide)) hk (fun _ h => h.2)) (fun _ h => h.1)); have n1_ := Aside0.mk (KeepBut.trans (by repeat (first | (with_reducible first | exact HK.out | apply KeepBut.set_ | apply keep_drewN | apply keep_drew | apply keep_alloc) | exact HK.out)) hk (.inl rfl)); have n2_ := Aside0.mk (hb); have n3_ := Aside0.mk (hi); clear HO_3 HK HB HI0; have HO_3 := n0_; have HK := n1_; have HB := n2_; have HI0 := n3_; clear n0_ n1_ n2_ n3_; (try clear hb); (try clear hb2); (try clear hk); (try clear hi); have TK1_ := Aside0.mk trivial) | (clear TK1_; (with_reducible refine gate_callee (f := 80) rfl ?_); refine goesL_ (some 16) rfl rfl Tryd.func80 (by kernel_rfl) rfl #[.pointer (some ⟨g, 0, none⟩), .int .i64 9] rfl (by (try simp only [List.map_toArray, List.map_cons, List.map_nil]); first | done | rfl | (simp only [List.length_drop, List.length_take]; rfl)) ?_; (with_reducible refine (spec_l20Rd_pick.calls k1 g s0_0 t366 9 t367 t368 w0 _ ?side1 ?side2 A8.out).mono ?_); (case side1 => repeat (first | (with_reducible first | exact HI0.out | apply IsS133.alloc | apply IsS133.drewN | apply IsS133.drew | apply IsS133.set_1) | exact HI0.out)); (case side2 => repeat (first | (with_reducible first | exact HB.out | apply below_alloc | apply pw_below_drewN | apply below_drew1 | refine below_set ?_ (IsS133.ge HI0.out)) | exact HB.out)); rintro e w11 ⟨rfl, hi, hb, hk⟩; refine ⟨_, rfl, ?_⟩; have n0_ := Aside0.mk (Kd.R_mono (Kd.R_keep (IsS133.apart (show IsS133 w0 _ g s0_0 t366 from by repeat (first | (with_reducible first | exact HI0.out | apply IsS133.alloc | apply IsS133.drewN | apply IsS133.drew | apply IsS133.set_1) | exact HI0.out)) (rk HO_3) (by decide)) hk (fun _ h => h.2)) (fun _ h => h.1)); have n1_ := Aside0.mk (KeepBut.trans (by repeat (first | (with_reducible first | exact HK.out | apply KeepBut.set_ | apply keep_drewN | apply keep_drew | apply keep_alloc) | exact HK.out)) hk (.inl rfl)); have n2_ := Aside0.mk (hb); have n3_ := Aside0.mk (hi); clear HO_3 HK HB HI0; have HO_3 := n0_; have HK := n1_; have HB := n2_; have HI0 := n3_; clear n0_ n1_ n2_ n3_; (try clear hb); (try clear hb2); (try clear hk); (try clear hi); have TK2_ := Aside0.mk trivial) | (clear TK2_; (with_reducible refine gate_builtin (b := .append) (xs := #[.tmp 12, .tmp 19]) rfl ?_); at_builtin; refine Kd.R_append (Kd.int .i64) w.heap.size rfl (.tmp 12) (.tmp 19) 30 3 (.int .i64 0) 8 rfl Tryd.underlying30 info3 rfl (by decide) (by omega) u3 x3_1 (wrap64 (t365 - (wrap64 (Int.tdiv t367 8)))) [.int .i64 (wrap64 (t365 - (wrap64 (Int.tdiv t367 8))))] (fun _ => True) (fun _ => False) rfl rfl ?aP (fun _ hk => by first | exact hk.elim | grind) ?aF ?aO (Below.refl _ _) ?aS ?aL ?_; (case aP => exact rfl); (case aF => exact (fun _ _ => trivial)); (case aO => exact (rk HO_3)); (case aS => exact (keep_size (w := w) (g := g) (row := none) (by repeat (first | (with_reducible first | exact HK.out | apply KeepBut.set_ | apply keep_drewN | apply keep_drew | apply keep_alloc) | exact HK.out)))); (case aL => have := LMc9.out; omega); intro v370 w12 ho hb hg hat; rw [← Ny369.out] at ho; have n0_ := Aside0.mk (IsS133.grown (by repeat (first | (with_reducible first | exact HI0.out | apply IsS133.alloc | apply IsS133.drewN | apply IsS133.drew | apply IsS133.set_1) | exact HI0.out)) hg (IsS133.own_ne HI0.out HO_3.out (by decide))); have n1_ := Aside0.mk (below_weaken (by repeat (first | (with_reducible first | exact HB.out | apply below_alloc | apply pw_below_drewN | apply below_drew1 | refine below_set ?_ (IsS133.ge HI0.out)) | exact HB.out)) HL.out hb); have n2_ := Aside0.mk (KeepBut.trans (by repeat (first | (with_reducible first | exact HK.out | apply KeepBut.set_ | apply keep_drewN | apply keep_drew | apply keep_alloc) | exact HK.out)) (KeepBut.of_grown hg g) (Kd.R_base2 HO_3.out)); have n3_ := Aside0.mk (ho); clear HI0 HB HK HO_3; have HI0 := n0_; have HB := n1_; have HK := n2_; have HO371 := n3_; clear n0_ n1_ n2_ n3_; clear ho hb hg hat; have TK3_ := Aside0.mk trivial))
     go_roundg k1
     case measure => have := HK1.out; omega
     case rel => exact ⟨(y369), (wrap64 (x4_1 - 1)), (t368), (by first | rfl | (simp; done) | (simp [*]; done)), H', ⟨by have := HK1.out; omega⟩, ⟨rk HO371⟩, ⟨by repeat (first | (with_reducible first | exact HI0.out | apply IsS133.alloc | apply IsS133.drewN | apply IsS133.drew | apply IsS133.set_1) | exact HI0.out)⟩, ⟨by repeat (first | (with_reducible first | exact HK.out | apply KeepBut.set_ | apply keep_drewN | apply keep_drew | apply keep_alloc) | exact HK.out)⟩, ⟨by repeat (first | (with_reducible first | exact HB.out | apply below_alloc | apply pw_below_drewN | apply below_drew1 | refine below_set ?_ (IsS133.ge HI0.out)) | exact HB.out)⟩⟩
    ·rw [if_neg c9] at H
     exact absurd H (by simp)
   ·rw [if_neg c6] at H
    have c6b0 : decide (0 < x4_1) = false := decide_eq_false c6
    clear c6
    simp only [Option.some.injEq, Prod.mk.injEq] at H
    obtain ⟨rfl, rfl⟩ := H
    go_wp2
    go_ret
    exact ⟨_, by first | rfl | (simp [errW_none, errW_some] <;> rfl) | (simp [*, errW_none, errW_some] <;> rfl), rk HO_3, by repeat (first | (with_reducible first | exact HI0.out | apply IsS133.alloc | apply IsS133.drewN | apply IsS133.drew | apply IsS133.set_1) | exact HI0.out), by repeat (first | (with_reducible first | exact HB.out | apply below_alloc | apply pw_below_drewN | apply below_drew1 | refine below_set ?_ (IsS133.ge HI0.out)) | exact HB.out), by repeat (first | (with_reducible first | exact HK.out | apply KeepBut.set_ | apply keep_drewN | apply keep_drew | apply keep_alloc) | exact HK.out)⟩

end Go.Proofs.YtoajkfhjgnonjaaDoor.G
