/- What functions of the program answer: each contract by a walk. No condition beyond those in each line. -/
import Derived.Test.YtoajkfhjgnonjaaDoorGx0
import Derived.Test.YtoajkfhjgnonjaaDoorGx1
import Derived.Test.YtoajkfhjgnonjaaDoorGx2
import Derived.Test.YtoajkfhjgnonjaaDoorSq
namespace Go.Proofs.YtoajkfhjgnonjaaDoor.G
open Go.RowKit Go.Proofs.YtoajkfhjgnonjaaDoorW.PrintWords Go.Proofs.YtoajkfhjgnonjaaDoorW.PrintLast Go.Proofs.YtoajkfhjgnonjaaDoorW.PrintMore Go.Proofs.YtoajkfhjgnonjaaDoor.Sq
attribute [local go_sem] max2_int min2_int max_two min_two max_three min_three max_four min_four
set_option linter.unusedVariables false
set_option linter.unusedSimpArgs false
/-! ### laws_FnBaySafe: function -/
def laws_FnBaySafe.f (k : Nat) (l0 : List Int) : Option (Bool) := if (l0.length : Int) > 1048576 then (some true) else ((spec_DrawBaySafe.f k l0).bind fun bt => (laws_alive.f k))
theorem laws_FnBaySafe.mono : ∀ a0 k, LeO (laws_FnBaySafe.f k a0) (laws_FnBaySafe.f (k + 1) a0) := by
  intro a0 k
  unfold laws_FnBaySafe.f
  exact LeO.ite (LeO.refl _) (LeO.bind (spec_DrawBaySafe.mono _ _) (fun _ => laws_alive.mono _))
theorem laws_FnBaySafe.cell {W w1 : World} (hb : Below W.heap.size W w1) : (∀ b o, b < W.heap.size → w1.cell? ⟨b, o, none⟩ = W.cell? ⟨b, o, none⟩) ∧ (∀ b o, b < W.heap.size → w1.frozen? ⟨b, o, none⟩ = W.frozen? ⟨b, o, none⟩) :=
  ⟨fun b o h => hb.cell (p := ⟨b, o, none⟩) h, fun b o h => hb.frozen (p := ⟨b, o, none⟩) h⟩
set_option maxHeartbeats 4000000 in
set_option maxRecDepth 100000 in
/-- Whatever bay is drawn, what is left to answer is whether the fixed answers are right. -/
theorem laws_FnBaySafe.calls (k : Nat) (A0 : Option Addr) (c0 : Nat) (l0 : List Int) (r : Bool) (w : World) (hr0 : Kd.C (Kd.int .u8) w A0 l0.length l0) (hc0 : l0.length ≤ c0) (h : laws_FnBaySafe.f k l0 = some r) :
    Calls Tryd.prog 7 #[.slice A0 l0.length c0] w fun e w' => e = .returned (.bool r) ∧ Below w.heap.size w w' := by
  have HR := Aside0.mk hr0
  have HC := Aside0.mk hc0
  clear hr0 hc0
  unfold laws_FnBaySafe.f at h
  by_cases c : (l0.length : Int) > 1048576
  · rw [if_pos c] at h
    obtain rfl := Option.some.inj h
    have c1 : decide (1048576 < (l0.length : Int)) = true := decide_eq_true c
    have c2 : decide (1048576 < l0.length) = true := decide_eq_true (by omega)
    clear h c
    go_enter Tryd.func7, Tryd.ntmps7
    go_wp2
    go_ret
    exact ⟨rfl, Below.refl _ _⟩
  · rw [if_neg c] at h
    obtain ⟨⟨x, y, z, u⟩, hd, ha⟩ := Option.bind_eq_some_iff.mp h
    have HD := Aside0.mk hd
    have HA : Aside0 (laws_alive.f k = some r) := ⟨ha⟩
    have c1 : decide (1048576 < (l0.length : Int)) = false := decide_eq_false c
    have c2 : decide (1048576 < l0.length) = false := decide_eq_false (by omega)
    clear h hd ha c
    cases z <;> cases u
    all_goals
      have TK0 := Aside0.mk trivial
      go_enter Tryd.func7, Tryd.ntmps7
      go_wp2_with (first | (clear TK0; go_at_call 42; refine (spec_DrawBaySafe.calls k _ _ l0 _ _ _ _ _ HR.out HC.out HD.out).mono ?_; rintro e w1 ⟨rfl, hb1⟩; have HB1 := Aside0.mk hb1; obtain ⟨hc1, hf1⟩ := laws_FnBaySafe.cell hb1; clear hb1; have TK1 := Aside0.mk trivial) | (clear TK1; go_at_call 43; refine (impl_BaySafe.calls _ _ _ _ _ _ rfl).mono ?_; rintro e w2 ⟨rfl, hb2⟩; have HB2 := Aside0.mk hb2; obtain ⟨hc2, hf2⟩ := laws_FnBaySafe.cell hb2; have hz2 : w1.heap.size < w2.heap.size := (by have q_ := hb2.size; simp at q_; omega); clear hb2; have TK2 := Aside0.mk trivial) | (clear TK2; go_at_call 44; refine (spec_BaySafe.calls _ _ _ _ _ _ rfl).mono ?_; rintro e w3 ⟨rfl, hb3⟩; have HB3 := Aside0.mk hb3; obtain ⟨hc3, hf3⟩ := laws_FnBaySafe.cell hb3; have hz3 : w1.heap.size < w3.heap.size := Nat.lt_of_lt_of_le hz2 hb3.size; have hz3b : w1.heap.size < w3.heap.size + 1 := (by omega); have hz3c : w1.heap.size < w3.heap.size + 1 + 1 := (by omega); have hz3d : w1.heap.size < w3.heap.size + 2 := (by omega); have hn1 : w1.heap.size ≠ w3.heap.size := (by omega); have hn2 : w1.heap.size ≠ w3.heap.size + 1 := (by omega); have hn3 : w3.heap.size ≠ w1.heap.size := (by omega); have hn4 : w3.heap.size + 1 ≠ w1.heap.size := (by omega); clear hb3; have TK3 := Aside0.mk trivial) | (clear TK3; go_at_call 43; refine (impl_BaySafe.calls _ _ _ _ _ _ rfl).mono ?_; rintro e w4 ⟨rfl, hb4⟩; have HB4 := Aside0.mk hb4; obtain ⟨hc4, hf4⟩ := laws_FnBaySafe.cell hb4; have hz4 : w3.heap.size < w4.heap.size := (by have q_ := hb4.size; simp at q_; omega); have hz4b : w3.heap.size + 1 < w4.heap.size := (by have q_ := hb4.size; simp at q_; omega); have hz4c : w1.heap.size < w4.heap.size := Nat.lt_trans hz3 hz4; clear hb4; have TK4 := Aside0.mk trivial) | (clear TK4; go_at_call 43; refine (impl_BaySafe.calls _ _ _ _ _ _ rfl).mono ?_; rintro e w5 ⟨rfl, hb5⟩; have HB5 := Aside0.mk hb5; obtain ⟨hc5, hf5⟩ := laws_FnBaySafe.cell hb5; have hz5 : w3.heap.size < w5.heap.size := Nat.lt_of_lt_of_le hz4 hb5.size; have hz5b : w3.heap.size + 1 < w5.heap.size := Nat.lt_of_lt_of_le hz4b hb5.size; have hz5c : w1.heap.size < w5.heap.size := Nat.lt_of_lt_of_le hz4c hb5.size; clear hb5; have TK5 := Aside0.mk trivial) | (clear TK5; go_at_call 21; refine (laws_alive.calls k r _ HA.out).mono ?_; rintro e w6 ⟨rfl, hb6⟩; have HB6 := Aside0.mk hb6; clear hb6))
      go_ret
      exact ⟨rfl, below_step (below_step (below_step (below_alloc (below_alloc (below_step (below_step (below_alloc HB1.out _) HB2.out) HB3.out) _) _) HB4.out) HB5.out) HB6.out⟩

end Go.Proofs.YtoajkfhjgnonjaaDoor.G
