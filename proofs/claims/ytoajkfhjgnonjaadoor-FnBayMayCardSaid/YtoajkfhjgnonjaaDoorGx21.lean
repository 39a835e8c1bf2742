/- What functions of the program answer: each contract by a walk. No condition beyond those in each line. -/
import Derived.Test.YtoajkfhjgnonjaaDoorGx0
import Derived.Test.YtoajkfhjgnonjaaDoorGx1
import Derived.Test.YtoajkfhjgnonjaaDoorGx2
import Derived.Test.YtoajkfhjgnonjaaDoorGx6
import Derived.Test.YtoajkfhjgnonjaaDoorGx7
import Derived.Test.YtoajkfhjgnonjaaDoorSq
namespace Go.Proofs.YtoajkfhjgnonjaaDoor.G
open Go.RowKit Go.Proofs.YtoajkfhjgnonjaaDoorW.PrintWords Go.Proofs.YtoajkfhjgnonjaaDoorW.PrintLast Go.Proofs.YtoajkfhjgnonjaaDoorW.PrintMore Go.Proofs.YtoajkfhjgnonjaaDoor.Sq
attribute [local go_sem] max2_int min2_int max_two min_two max_three min_three max_four min_four
set_option linter.unusedVariables false
set_option linter.unusedSimpArgs false
/-! ### laws_FnBayMay: function -/
def laws_FnBayMay.ok (d : Bool × Bool × Bool × Bool × Int) : Bool := decide (0 ≤ d.2.2.2.2) && (decide (d.2.2.2.2 ≤ 7) && impl_BayMay.may d.1 d.2.1 d.2.2.1 d.2.2.2.1 d.2.2.2.2.toNat)
def laws_FnBayMay.f (k : Nat) (l0 : List Int) : Option (Bool) := if (l0.length : Int) > 1048576 then (some true) else ((spec_DrawBayMay.f k l0).bind fun bt => (if laws_FnBayMay.ok bt = true then (some true) else (laws_alive.f k)))
theorem laws_FnBayMay.mono : ∀ a0 k, LeO (laws_FnBayMay.f k a0) (laws_FnBayMay.f (k + 1) a0) := by
  intro a0 k
  unfold laws_FnBayMay.f
  exact LeO.ite (LeO.refl _) (LeO.bind (spec_DrawBayMay.mono _ _) (fun _ => LeO.ite (LeO.refl _) (laws_alive.mono _)))
theorem laws_FnBayMay.cell {W w1 : World} (hb : Below W.heap.size W w1) : (∀ b o, b < W.heap.size → w1.cell? ⟨b, o, none⟩ = W.cell? ⟨b, o, none⟩) ∧ (∀ b o, b < W.heap.size → w1.frozen? ⟨b, o, none⟩ = W.frozen? ⟨b, o, none⟩) :=
  ⟨fun b o h => hb.cell (p := ⟨b, o, none⟩) h, fun b o h => hb.frozen (p := ⟨b, o, none⟩) h⟩
/-- A deed that may be done. -/
def laws_FnBayMay.Good (x y z u : Bool) (d : Int) (x' y' z' u' : Bool) : Prop :=
  impl_BayDo.f x y z u d = some (x', y', z', u', true) ∧ impl_BayMay.f x' y' z' u' d = some false ∧ (impl_BaySafe.f x y z u = some true → impl_BaySafe.f x' y' z' u' = some true ∧ impl_BayMay.f x' y' z' u' (d + 1 - 2 * (d % 2)) = some true)
instance (x y z u : Bool) (d : Int) (x' y' z' u' : Bool) : Decidable (laws_FnBayMay.Good x y z u d x' y' z' u') := by unfold laws_FnBayMay.Good; infer_instance
theorem laws_FnBayMay.good : ∀ (x y z u : Bool) (d : Fin 8), impl_BayMay.may x y z u d.val = true → (∃ x' y' z' u' : Bool, laws_FnBayMay.Good x y z u ((d.val : Nat) : Int) x' y' z' u') ∧ (x = true → d.val = 0 ∨ d.val = 6 ∨ d.val = 7) := by decide +kernel
theorem laws_FnBayMay.may_same : ∀ (x y z u : Bool) (d : Fin 8), spec_BayMay.may x y z u d.val = impl_BayMay.may x y z u d.val := by decide +kernel
set_option maxHeartbeats 4000000 in
set_option maxRecDepth 100000 in
theorem laws_FnBayMay.yes (k : Nat) (A0 : Option Addr) (c0 : Nat) (l0 : List Int) (x y z u x' y' z' u' s : Bool) (d : Int) (w : World) (hr0 : Kd.C (Kd.int .u8) w A0 l0.length l0) (hc0 : l0.length ≤ c0) (hn : ¬ (l0.length : Int) > 1048576)
    (hd : spec_DrawBayMay.f k l0 = some (x, y, z, u, d)) (h0 : 0 ≤ d) (h7 : d ≤ 7) (hm : impl_BayMay.f x y z u d = some true) (hm2 : spec_BayMay.f x y z u d = some true) (hs : impl_BaySafe.f x y z u = some s) (hg : laws_FnBayMay.Good x y z u d x' y' z' u') (hx : x = true → d = 0 ∨ d = 6 ∨ d = 7) :
    Calls Tryd.prog 11 #[.slice A0 l0.length c0] w fun e w' => e = .returned (.bool true) ∧ Below w.heap.size w w' := by
  have HR := Aside0.mk hr0
  have HC := Aside0.mk hc0
  have HD := Aside0.mk hd
  have HM := Aside0.mk hm
  have HM2 := Aside0.mk hm2
  have HS := Aside0.mk hs
  have HG := Aside0.mk hg
  have HX := Aside0.mk hx
  have c1 : decide (1048576 < (l0.length : Int)) = false := decide_eq_false hn
  have c2 : decide (1048576 < l0.length) = false := decide_eq_false (by omega)
  clear hr0 hc0 hd hm hm2 hs hg hx hn
  have key : ∀ (x0 : Bool) (d0 : Int), x0 = x → d0 = d → (x0 = true → d0 = 0 ∨ d0 = 6 ∨ d0 = 7) := by
    rintro _ _ rfl rfl
    exact HX.out
  cases x
  case true =>
    have h3 := HX.out rfl
    clear key HX
    rcases h3 with rfl | rfl | rfl <;> cases s
    all_goals
      clear h0 h7
      have TK0 := Aside0.mk trivial
      go_enter Tryd.func11, Tryd.ntmps11
      go_wp2_with (first | (clear TK0; go_at_call 54; refine (spec_DrawBayMay.calls k _ _ l0 _ _ _ _ _ _ HR.out HC.out HD.out).mono ?_; rintro e w1 ⟨rfl, hb1⟩; have HB1 := Aside0.mk hb1; obtain ⟨hc1, hf1⟩ := laws_FnBayMay.cell hb1; clear hb1; have TK1 := Aside0.mk trivial) | (clear TK1; go_at_call 55; refine (impl_BayMay.calls _ _ _ _ _ _ _ HM.out).mono ?_; rintro e w2 ⟨rfl, hb2⟩; have HB2 := Aside0.mk hb2; obtain ⟨hc2, hf2⟩ := laws_FnBayMay.cell hb2; have hz2 : w1.heap.size < w2.heap.size := (by have q_ := hb2.size; simp at q_; omega); clear hb2; have TK2 := Aside0.mk trivial) | (clear TK2; go_at_call 56; refine (spec_BayMay.calls _ _ _ _ _ _ _ HM2.out).mono ?_; rintro e w3 ⟨rfl, hb3⟩; have HB3 := Aside0.mk hb3; obtain ⟨hc3, hf3⟩ := laws_FnBayMay.cell hb3; have hz3 : w1.heap.size < w3.heap.size := Nat.lt_of_lt_of_le hz2 hb3.size; clear hb3; have TK3 := Aside0.mk trivial) | (clear TK3; go_at_call 57; refine (impl_BayDo.calls _ _ _ _ _ _ _ _ _ _ _ HG.out.1).mono ?_; rintro e w4 ⟨rfl, hb4⟩; have HB4 := Aside0.mk hb4; obtain ⟨hc4, hf4⟩ := laws_FnBayMay.cell hb4; have hz4 : w1.heap.size < w4.heap.size := Nat.lt_of_lt_of_le hz3 hb4.size; have hz4b : w1.heap.size < w4.heap.size + 1 := (by omega); have hn1 : w1.heap.size ≠ w4.heap.size := (by omega); have hn3 : w4.heap.size ≠ w1.heap.size := (by omega); clear hb4; have TK4 := Aside0.mk trivial) | (clear TK4; go_at_call 43; refine (impl_BaySafe.calls _ _ _ _ _ _ HS.out).mono ?_; rintro e w5 ⟨rfl, hb5⟩; have HB5 := Aside0.mk hb5; obtain ⟨hc5, hf5⟩ := laws_FnBayMay.cell hb5; have hz5 : w4.heap.size < w5.heap.size := (by have q_ := hb5.size; simp at q_; omega); have hz5c : w1.heap.size < w5.heap.size := Nat.lt_trans hz4 hz5; clear hb5; have TK5 := Aside0.mk trivial; have TL5 := Aside0.mk trivial) | (clear TK5; go_at_call 43; refine (impl_BaySafe.calls _ _ _ _ _ _ (HG.out.2.2 HS.out).1).mono ?_; rintro e w6 ⟨rfl, hb6⟩; have HB6 := Aside0.mk hb6; obtain ⟨hc6, hf6⟩ := laws_FnBayMay.cell hb6; have hz6 : w4.heap.size < w6.heap.size := Nat.lt_of_lt_of_le hz5 hb6.size; have hz6c : w1.heap.size < w6.heap.size := Nat.lt_of_lt_of_le hz5c hb6.size; clear hb6; clear TL5; have TK6 := Aside0.mk trivial) | (clear TK6; go_at_call 55; refine (impl_BayMay.calls _ _ _ _ _ _ _ (HG.out.2.2 HS.out).2).mono ?_; rintro e w7 ⟨rfl, hb7⟩; have HB7 := Aside0.mk hb7; obtain ⟨hc7, hf7⟩ := laws_FnBayMay.cell hb7; have hz7 : w4.heap.size < w7.heap.size := Nat.lt_of_lt_of_le hz6 hb7.size; have hz7c : w1.heap.size < w7.heap.size := Nat.lt_of_lt_of_le hz6c hb7.size; clear hb7; have TL5 := Aside0.mk trivial) | (clear TL5; go_at_call 55; refine (impl_BayMay.calls _ _ _ _ _ _ _ HG.out.2.1).mono ?_; rintro e w8 ⟨rfl, hb8⟩; have HB8 := Aside0.mk hb8; obtain ⟨hc8, hf8⟩ := laws_FnBayMay.cell hb8; clear hb8))
      go_ret
      exact ⟨rfl, by first | exact below_step (below_step (below_step (below_step (below_alloc (below_step (below_step (below_step (below_alloc HB1.out _) HB2.out) HB3.out) HB4.out) _) HB5.out) HB6.out) HB7.out) HB8.out | exact below_step (below_step (below_alloc (below_step (below_step (below_step (below_alloc HB1.out _) HB2.out) HB3.out) HB4.out) _) HB5.out) HB8.out⟩
  case false =>
    clear key HX
    cases s
    all_goals
      have TK0 := Aside0.mk trivial
      go_enter Tryd.func11, Tryd.ntmps11
      go_wp2_with (first | (clear TK0; go_at_call 54; refine (spec_DrawBayMay.calls k _ _ l0 _ _ _ _ _ _ HR.out HC.out HD.out).mono ?_; rintro e w1 ⟨rfl, hb1⟩; have HB1 := Aside0.mk hb1; obtain ⟨hc1, hf1⟩ := laws_FnBayMay.cell hb1; clear hb1; have TK1 := Aside0.mk trivial) | (clear TK1; go_at_call 55; refine (impl_BayMay.calls _ _ _ _ _ _ _ HM.out).mono ?_; rintro e w2 ⟨rfl, hb2⟩; have HB2 := Aside0.mk hb2; obtain ⟨hc2, hf2⟩ := laws_FnBayMay.cell hb2; have hz2 : w1.heap.size < w2.heap.size := (by have q_ := hb2.size; simp at q_; omega); clear hb2; have TK2 := Aside0.mk trivial) | (clear TK2; go_at_call 56; refine (spec_BayMay.calls _ _ _ _ _ _ _ HM2.out).mono ?_; rintro e w3 ⟨rfl, hb3⟩; have HB3 := Aside0.mk hb3; obtain ⟨hc3, hf3⟩ := laws_FnBayMay.cell hb3; have hz3 : w1.heap.size < w3.heap.size := Nat.lt_of_lt_of_le hz2 hb3.size; clear hb3; have TK3 := Aside0.mk trivial) | (clear TK3; go_at_call 57; refine (impl_BayDo.calls _ _ _ _ _ _ _ _ _ _ _ HG.out.1).mono ?_; rintro e w4 ⟨rfl, hb4⟩; have HB4 := Aside0.mk hb4; obtain ⟨hc4, hf4⟩ := laws_FnBayMay.cell hb4; have hz4 : w1.heap.size < w4.heap.size := Nat.lt_of_lt_of_le hz3 hb4.size; have hz4b : w1.heap.size < w4.heap.size + 1 := (by omega); have hn1 : w1.heap.size ≠ w4.heap.size := (by omega); have hn3 : w4.heap.size ≠ w1.heap.size := (by omega); clear hb4; have TK4 := Aside0.mk trivial) | (clear TK4; go_at_call 43; refine (impl_BaySafe.calls _ _ _ _ _ _ HS.out).mono ?_; rintro e w5 ⟨rfl, hb5⟩; have HB5 := Aside0.mk hb5; obtain ⟨hc5, hf5⟩ := laws_FnBayMay.cell hb5; have hz5 : w4.heap.size < w5.heap.size := (by have q_ := hb5.size; simp at q_; omega); have hz5c : w1.heap.size < w5.heap.size := Nat.lt_trans hz4 hz5; clear hb5; have TK5 := Aside0.mk trivial; have TL5 := Aside0.mk trivial) | (clear TK5; go_at_call 43; refine (impl_BaySafe.calls _ _ _ _ _ _ (HG.out.2.2 HS.out).1).mono ?_; rintro e w6 ⟨rfl, hb6⟩; have HB6 := Aside0.mk hb6; obtain ⟨hc6, hf6⟩ := laws_FnBayMay.cell hb6; have hz6 : w4.heap.size < w6.heap.size := Nat.lt_of_lt_of_le hz5 hb6.size; have hz6c : w1.heap.size < w6.heap.size := Nat.lt_of_lt_of_le hz5c hb6.size; clear hb6; clear TL5; have TK6 := Aside0.mk trivial) | (clear TK6; go_at_call 55; refine (impl_BayMay.calls _ _ _ _ _ _ _ (HG.out.2.2 HS.out).2).mono ?_; rintro e w7 ⟨rfl, hb7⟩; have HB7 := Aside0.mk hb7; obtain ⟨hc7, hf7⟩ := laws_FnBayMay.cell hb7; have hz7 : w4.heap.size < w7.heap.size := Nat.lt_of_lt_of_le hz6 hb7.size; have hz7c : w1.heap.size < w7.heap.size := Nat.lt_of_lt_of_le hz6c hb7.size; clear hb7; have TL5 := Aside0.mk trivial) | (clear TL5; go_at_call 55; refine (impl_BayMay.calls _ _ _ _ _ _ _ HG.out.2.1).mono ?_; rintro e w8 ⟨rfl, hb8⟩; have HB8 := Aside0.mk hb8; obtain ⟨hc8, hf8⟩ := laws_FnBayMay.cell hb8; clear hb8))
      go_ret
      exact ⟨rfl, by first | exact below_step (below_step (below_step (below_step (below_alloc (below_step (below_step (below_step (below_alloc HB1.out _) HB2.out) HB3.out) HB4.out) _) HB5.out) HB6.out) HB7.out) HB8.out | exact below_step (below_step (below_alloc (below_step (below_step (below_step (below_alloc HB1.out _) HB2.out) HB3.out) HB4.out) _) HB5.out) HB8.out⟩
set_option maxHeartbeats 4000000 in
set_option maxRecDepth 100000 in
theorem laws_FnBayMay.no (k : Nat) (A0 : Option Addr) (c0 : Nat) (l0 : List Int) (r x y z u : Bool) (d : Int) (w : World) (hr0 : Kd.C (Kd.int .u8) w A0 l0.length l0) (hc0 : l0.length ≤ c0) (hn : ¬ (l0.length : Int) > 1048576)
    (hd : spec_DrawBayMay.f k l0 = some (x, y, z, u, d)) (hm : impl_BayMay.f x y z u d = some false) (hm2 : spec_BayMay.f x y z u d = some false) (ha : laws_alive.f k = some r) :
    Calls Tryd.prog 11 #[.slice A0 l0.length c0] w fun e w' => e = .returned (.bool r) ∧ Below w.heap.size w w' := by
  have HR := Aside0.mk hr0
  have HC := Aside0.mk hc0
  have HD := Aside0.mk hd
  have HM := Aside0.mk hm
  have HM2 := Aside0.mk hm2
  have HA : Aside0 (laws_alive.f k = some r) := ⟨ha⟩
  have c1 : decide (1048576 < (l0.length : Int)) = false := decide_eq_false hn
  have c2 : decide (1048576 < l0.length) = false := decide_eq_false (by omega)
  clear hr0 hc0 hd hm hm2 ha hn
  have TK0 := Aside0.mk trivial
  go_enter Tryd.func11, Tryd.ntmps11
  go_wp2_with (first | (clear TK0; go_at_call 54; refine (spec_DrawBayMay.calls k _ _ l0 _ _ _ _ _ _ HR.out HC.out HD.out).mono ?_; rintro e w1 ⟨rfl, hb1⟩; have HB1 := Aside0.mk hb1; obtain ⟨hc1, hf1⟩ := laws_FnBayMay.cell hb1; clear hb1; have TK1 := Aside0.mk trivial) | (clear TK1; go_at_call 55; refine (impl_BayMay.calls _ _ _ _ _ _ _ HM.out).mono ?_; rintro e w2 ⟨rfl, hb2⟩; have HB2 := Aside0.mk hb2; obtain ⟨hc2, hf2⟩ := laws_FnBayMay.cell hb2; have hz2 : w1.heap.size < w2.heap.size := (by have q_ := hb2.size; simp at q_; omega); clear hb2; have TK2 := Aside0.mk trivial) | (clear TK2; go_at_call 56; refine (spec_BayMay.calls _ _ _ _ _ _ _ HM2.out).mono ?_; rintro e w3 ⟨rfl, hb3⟩; have HB3 := Aside0.mk hb3; obtain ⟨hc3, hf3⟩ := laws_FnBayMay.cell hb3; have hz3 : w1.heap.size < w3.heap.size := Nat.lt_of_lt_of_le hz2 hb3.size; clear hb3; have TK3 := Aside0.mk trivial) | (clear TK3; go_at_call 21; refine (laws_alive.calls k r _ HA.out).mono ?_; rintro e w4 ⟨rfl, hb4⟩; have HB4 := Aside0.mk hb4; clear hb4))
  go_ret
  exact ⟨rfl, below_step (below_step (below_step (below_alloc HB1.out _) HB2.out) HB3.out) HB4.out⟩
/-- Whatever bay and deed are drawn: the law is true, or it asks the fixed answers. -/
theorem laws_FnBayMay.calls (k : Nat) (A0 : Option Addr) (c0 : Nat) (l0 : List Int) (r : Bool) (w : World) (hr0 : Kd.C (Kd.int .u8) w A0 l0.length l0) (hc0 : l0.length ≤ c0) (h : laws_FnBayMay.f k l0 = some r) :
    Calls Tryd.prog 11 #[.slice A0 l0.length c0] w fun e w' => e = .returned (.bool r) ∧ Below w.heap.size w w' := by
  unfold laws_FnBayMay.f at h
  by_cases c : (l0.length : Int) > 1048576
  · rw [if_pos c] at h
    obtain rfl := Option.some.inj h
    have c1 : decide (1048576 < (l0.length : Int)) = true := decide_eq_true c
    have c2 : decide (1048576 < l0.length) = true := decide_eq_true (by omega)
    clear h c
    go_enter Tryd.func11, Tryd.ntmps11
    go_wp2
    go_ret
    exact ⟨rfl, Below.refl _ _⟩
  · rw [if_neg c] at h
    obtain ⟨⟨x, y, z, u, d⟩, hd, h⟩ := Option.bind_eq_some_iff.mp h
    by_cases q : laws_FnBayMay.ok (x, y, z, u, d) = true
    · rw [if_pos q] at h
      obtain rfl := Option.some.inj h
      simp only [laws_FnBayMay.ok, Bool.and_eq_true, decide_eq_true_eq] at q
      obtain ⟨h0, h7, hm⟩ := q
      obtain ⟨n, rfl⟩ := Int.eq_ofNat_of_zero_le h0
      have hn : n < 8 := by omega
      have hm' : impl_BayMay.may x y z u n = true := hm
      obtain ⟨⟨x', y', z', u', hg⟩, hx⟩ := laws_FnBayMay.good x y z u ⟨n, hn⟩ hm'
      have e1 : impl_BayMay.f x y z u (n : Int) = some true := by
        unfold impl_BayMay.f
        rw [if_pos ⟨h0, h7⟩]
        exact congrArg some hm'
      have e2 : spec_BayMay.f x y z u (n : Int) = some true := by
        unfold spec_BayMay.f
        rw [if_pos ⟨h0, h7⟩]
        exact congrArg some ((laws_FnBayMay.may_same x y z u ⟨n, hn⟩).trans hm')
      obtain ⟨s, hs⟩ : ∃ s, impl_BaySafe.f x y z u = some s := by cases x <;> cases y <;> cases z <;> cases u <;> exact ⟨_, rfl⟩
      refine laws_FnBayMay.yes k A0 c0 l0 x y z u x' y' z' u' s n w hr0 hc0 c hd h0 h7 e1 e2 hs hg (fun e => ?_)
      have := hx e
      simp only at this
      omega
    · rw [if_neg q] at h
      have e1 : impl_BayMay.f x y z u d = some false := by
        unfold impl_BayMay.f
        split
        · rename_i hh
          simp only [laws_FnBayMay.ok, hh.1, hh.2, decide_true, Bool.true_and, Bool.not_eq_true] at q
          rw [q]
        · rfl
      have e2 : spec_BayMay.f x y z u d = some false := by
        unfold spec_BayMay.f
        split
        · rename_i hh
          obtain ⟨n, rfl⟩ := Int.eq_ofNat_of_zero_le hh.1
          have hn : n < 8 := by omega
          simp only [laws_FnBayMay.ok, hh.1, hh.2, decide_true, Bool.true_and, Bool.not_eq_true] at q
          exact congrArg some ((laws_FnBayMay.may_same x y z u ⟨n, hn⟩).trans q)
        · rfl
      exact laws_FnBayMay.no k A0 c0 l0 r x y z u d w hr0 hc0 c hd e1 e2 h

end Go.Proofs.YtoajkfhjgnonjaaDoor.G
