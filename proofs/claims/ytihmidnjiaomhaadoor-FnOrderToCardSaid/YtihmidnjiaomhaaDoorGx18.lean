-- Printed by wip/gen.py of this session's repo, over the kit's print.py. Not trusted: Lean checks it.
import Derived.Test.YtihmidnjiaomhaaDoorSq
import Derived.Test.YtihmidnjiaomhaaDoorGx0
import Derived.Test.YtihmidnjiaomhaaDoorGx4
import Derived.Test.YtihmidnjiaomhaaDoorGx5
import Derived.Test.YtihmidnjiaomhaaDoorGx6
import Derived.Test.YtihmidnjiaomhaaDoorGx10
import Derived.Test.YtihmidnjiaomhaaDoorGx15
namespace Go.Proofs.YtihmidnjiaomhaaDoor.G
open Go.RowKit Go.Proofs.YtihmidnjiaomhaaDoorW.PrintWords Go.Proofs.YtihmidnjiaomhaaDoorW.PrintLast Go.Proofs.YtihmidnjiaomhaaDoorW.PrintMore Go.Proofs.YtihmidnjiaomhaaDoor.Sq
attribute [local go_sem] max2_int min2_int max_two min_two max_three min_three max_four min_four   -- for this text's walks alone
set_option linter.unusedVariables false
set_option linter.unusedSimpArgs false

attribute [local go_sem high] eqA87
/-! ### laws_alive: function 13 -/
def laws_alive.f (k : Nat)  : Option (Bool) := (impl_OtherEnd.f k 2 (([(⟨0, 1, 1⟩ : S42)] : List (S42))) 0 0).bind fun t250 => (if t250 = 1 then ((impl_NetText.f k 0 ([] : List (S42))).bind fun t251 => (some (t251.toList == ([] : List UInt8)))) else (some false))
theorem laws_alive.mono : ∀ k, LeO (laws_alive.f k ) (laws_alive.f (k + 1) ) := by
 intro  k
 unfold laws_alive.f
 repeat' first
   | (with_reducible exact impl_NetText.mono _ _ _)
   | (with_reducible exact impl_OtherEnd.mono _ _ _ _ _)
   | (with_reducible exact LeO.refl _)
   | (with_reducible exact LeO.none _)
   | (with_reducible refine LeO.ite ?_ ?_)
   | (with_reducible refine LeO.bind ?_ (fun _ => ?_))
   | exact impl_NetText.mono _ _ _
   | exact impl_OtherEnd.mono _ _ _ _ _
   | exact LeO.none _
   | refine LeO.ite ?_ ?_
   | refine LeO.bind ?_ (fun _ => ?_)
set_option maxHeartbeats 8000000 in
set_option maxRecDepth 100000 in
theorem laws_alive.calls (k : Nat)  (r : Bool) (w : World) (h : laws_alive.f k  = some r) :
  Calls Tryd.prog 13 #[] w fun e w' => e = .returned (.bool r) ∧ Below w.heap.size w w' := by
 have hu42 := Tryd.underlying42
 have hu40 := Tryd.underlying40
 have HB := Aside0.mk (Below.refl w.heap.size w)
 have H : ((impl_OtherEnd.f k 2 (([(⟨0, 1, 1⟩ : S42)] : List (S42))) 0 0).bind fun t250 => (if t250 = 1 then ((impl_NetText.f k 0 ([] : List (S42))).bind fun t251 => (some (t251.toList == ([] : List UInt8)))) else (some false))) = some r := h
 clear h
 obtain ⟨y247, hy247⟩ : ∃ y_ : List (S42), y_ = (([(⟨0, 1, 1⟩ : S42)] : List (S42))) := ⟨_, rfl⟩
 replace H : ((impl_OtherEnd.f k 2 y247 0 0).bind fun t250 => (if t250 = 1 then ((impl_NetText.f k 0 ([] : List (S42))).bind fun t251 => (some (t251.toList == ([] : List UInt8)))) else (some false))) = some r := by first | (rw [hy247]; with_reducible exact H) | (have H2_ := (Option.bind_some _ _).symm.trans H; rw [hy247]; with_reducible exact H2_) | (have H2_ := (Option.bind_some _ _).symm.trans H; with_reducible exact H2_) | with_reducible exact H | (rw [hy247]; exact H) | exact H
 have Ny247 := Aside0.mk hy247
 clear hy247
 replace H := Option.bind_eq_some_iff.mp H
 obtain ⟨t250, A10, H⟩ := H
 replace H : (if t250 = 1 then ((impl_NetText.f k 0 ([] : List (S42))).bind fun t251 => (some (t251.toList == ([] : List UInt8)))) else (some false)) = some r := H
 have A1 := Aside0.mk A10
 clear A10
 by_cases c2 : t250 = 1
 ·rw [if_pos c2] at H
  have c2b0 : (t250 == 1) = true := beq_iff_eq.mpr c2
  have c2b1 : (t250 != 1) = false := bne_eq_false_iff_eq.mpr c2
  clear c2
  replace H := Option.bind_eq_some_iff.mp H
  obtain ⟨t251, A30, H⟩ := H
  replace H : (some (t251.toList == ([] : List UInt8))) = some r := H
  have A3 := Aside0.mk A30
  clear A30
  obtain rfl := Option.some.inj H
  go_enter Tryd.func13, Tryd.ntmps13
  have TK0_ := Aside0.mk trivial; have TK1_ := Aside0.mk trivial; have TK2_ := Aside0.mk trivial
  go_wp2_with (first | (clear TK0_; (with_reducible refine gate_dst (N := 2) rfl ?_); refine Kd.R_lit k42 _ 42 ?hg (N := 2) ?hd (xs := ([(⟨0, 1, 1⟩ : S42)] : List (S42))) (inner := [.int .i64 0, .int .i64 1, .int .i64 1]) (ok := fun _ => True) (okp := fun _ => True) ?hr ?hp (fun _ hk => by first | exact hk | grind) trivial (Below.refl _ _) (Nat.le_refl _) (by simp) ?_; (case hd => rfl); (case hg => rfl); (case hr => first | (go_simp; done) | (go_simp; rfl)); (case hp => exact (Reps.c3 (show Kd.M k42 _ _ _ (⟨0, 1, 1⟩ : S42) [.int .i64 0, .int .i64 1, .int .i64 1] from (k42_mkM _ _ _ (⟨0, 1, 1⟩ : S42) )) (Reps.none _ _))); intro v248 w4 ho5 hb hg_ hnew_; clear hg_ hnew_; (first | rw [← Ny247.out] at ho5 | (simp only [Int.reduceToNat] at ho5; rw [← Ny247.out] at ho5)); have n0_ := Aside0.mk (Kd.R_lower ho5 (below_size bw)); have n1_ := Aside0.mk (below_step bw hb); clear HB; have HO249 := n0_; have HB := n1_; clear n0_ n1_; clear hb ho5; obtain ⟨Ao6, co6, eo6⟩ := Kd.R_slice HO249.out; subst eo6) | (clear TK1_; (with_reducible refine gate_callee (f := 48) rfl ?_); refine goesL_ (some 4) rfl rfl Tryd.func48 (by kernel_rfl) rfl #[.agg #[.int .i64 2, .slice Ao6 y247.length co6], .int .i64 0, .int .i64 0] rfl (by (try simp only [List.map_toArray, List.map_cons, List.map_nil]); first | done | rfl | (simp only [List.length_drop, List.length_take]; rfl)) ?_; (with_reducible refine (impl_OtherEnd.calls k 2 _ _ y247 0 0 t250 _ ?side1 ?side2 A1.out).mono ?_); (case side1 => repeat (first | exact (Kd.R_reads' HO249.out).2.2 | (with_reducible refine Kd.C_alloc ?_ _) | (with_reducible refine Kd.C_drewN ?_ _) | (with_reducible refine Kd.C_drew ?_))); (case side2 => exact (Kd.R_reads' HO249.out).2.1); rintro e w7 ⟨rfl, hb⟩; refine ⟨_, rfl, ?_⟩; have n0_ := rB HO249 hb; have n1_ := Aside0.mk (below_step bw hb); clear HO249 HB; have HO249 := n0_; have HB := n1_; clear n0_ n1_; (try clear hb); (try clear hb2); (try clear hk); (try clear hi)) | (clear TK2_; go_at_call 49; (refine (impl_NetText.calls k 0 _ _ ([] : List (S42)) t251 _ ?side1 ?side2 A3.out).mono ?_); (case side1 => exact Kd.C_nil _ _); (case side2 => exact Nat.le_refl _); rintro e w8 ⟨rfl, hb⟩; have n0_ := rB HO249 hb; have n1_ := Aside0.mk (below_step bw hb); clear HO249 HB; have HO249 := n0_; have HB := n1_; clear n0_ n1_; (try clear hb); (try clear hb2); (try clear hk); (try clear hi)))
  go_ret
  exact ⟨by first | rfl | (simp [errW_none, errW_some] <;> rfl) | (simp [*, errW_none, errW_some] <;> rfl), bw⟩
 ·rw [if_neg c2] at H
  have c2b0 : (t250 == 1) = false := beq_eq_false_iff_ne.mpr c2
  have c2b1 : (t250 != 1) = true := bne_iff_ne.mpr c2
  obtain rfl := Option.some.inj H
  go_enter Tryd.func13, Tryd.ntmps13
  go_wp2_with (first | ((with_reducible refine gate_dst (N := 2) rfl ?_); refine Kd.R_lit k42 _ 42 ?hg (N := 2) ?hd (xs := ([(⟨0, 1, 1⟩ : S42)] : List (S42))) (inner := [.int .i64 0, .int .i64 1, .int .i64 1]) (ok := fun _ => True) (okp := fun _ => True) ?hr ?hp (fun _ hk => by first | exact hk | grind) trivial (Below.refl _ _) (Nat.le_refl _) (by simp) ?_; (case hd => rfl); (case hg => rfl); (case hr => first | (go_simp; done) | (go_simp; rfl)); (case hp => exact (Reps.c3 (show Kd.M k42 _ _ _ (⟨0, 1, 1⟩ : S42) [.int .i64 0, .int .i64 1, .int .i64 1] from (k42_mkM _ _ _ (⟨0, 1, 1⟩ : S42) )) (Reps.none _ _))); intro v248 w9 ho10 hb hg_ hnew_; clear hg_ hnew_; (first | rw [← Ny247.out] at ho10 | (simp only [Int.reduceToNat] at ho10; rw [← Ny247.out] at ho10)); have n0_ := Aside0.mk (Kd.R_lower ho10 (below_size bw)); have n1_ := Aside0.mk (below_step bw hb); clear HB; have HO249 := n0_; have HB := n1_; clear n0_ n1_; clear hb ho10; obtain ⟨Ao11, co11, eo11⟩ := Kd.R_slice HO249.out; subst eo11) | ((with_reducible refine gate_callee (f := 48) rfl ?_); refine goesL_ (some 4) rfl rfl Tryd.func48 (by kernel_rfl) rfl #[.agg #[.int .i64 2, .slice Ao11 y247.length co11], .int .i64 0, .int .i64 0] rfl (by (try simp only [List.map_toArray, List.map_cons, List.map_nil]); first | done | rfl | (simp only [List.length_drop, List.length_take]; rfl)) ?_; (with_reducible refine (impl_OtherEnd.calls k 2 _ _ y247 0 0 t250 _ ?side1 ?side2 A1.out).mono ?_); (case side1 => repeat (first | exact (Kd.R_reads' HO249.out).2.2 | (with_reducible refine Kd.C_alloc ?_ _) | (with_reducible refine Kd.C_drewN ?_ _) | (with_reducible refine Kd.C_drew ?_))); (case side2 => exact (Kd.R_reads' HO249.out).2.1); rintro e w12 ⟨rfl, hb⟩; refine ⟨_, rfl, ?_⟩; have n0_ := rB HO249 hb; have n1_ := Aside0.mk (below_step bw hb); clear HO249 HB; have HO249 := n0_; have HB := n1_; clear n0_ n1_; (try clear hb); (try clear hb2); (try clear hk); (try clear hi)))
  go_ret
  exact ⟨by first | rfl | (simp [errW_none, errW_some] <;> rfl) | (simp [*, errW_none, errW_some] <;> rfl), bw⟩

-- NOT PRINTED: function 3 (laws_FnWorkValid)

/-! ### laws_sameSteps: function 16 -/
def laws_sameSteps.l0 : Nat → List (S87) → List (S87) → Int → Option (Bool)
 | 0, _, _, _ => none
 | k + 1, x0, x1, x5 => if x5 < (x0.length : Int) then (if 0 ≤ x5 then (if x5 < (x1.length : Int) then (if (!(((rd_T87 x0 x5).f0) == ((rd_T87 x1 x5).f0)) || (!(((rd_T87 x0 x5).f1) == ((rd_T87 x1 x5).f1)))) = true then (some false) else (laws_sameSteps.l0 k x0 x1 (wrap64 (x5 + 1)))) else (none)) else (none)) else (some true)
def laws_sameSteps.f (k : Nat) (l0 : List (S87)) (l1 : List (S87)) : Option (Bool) := if (l0.length : Int) = (l1.length : Int) then (laws_sameSteps.l0 k l0 l1 0) else (some false)
theorem laws_sameSteps.mono_l : ∀ k, (∀ y0 y1 y2, LeO (laws_sameSteps.l0 k y0 y1 y2) (laws_sameSteps.l0 (k + 1) y0 y1 y2))
 | 0 => fun _ _ _ r h => by simp [laws_sameSteps.l0] at h
 | k + 1 => by
  have ih0 := laws_sameSteps.mono_l k
  ·intro y0 y1 y2
   unfold laws_sameSteps.l0
   repeat' first
   | (with_reducible exact ih0 _ _ _)
   | (with_reducible exact LeO.refl _)
   | (with_reducible exact LeO.none _)
   | (with_reducible refine LeO.ite ?_ ?_)
   | (with_reducible refine LeO.bind ?_ (fun _ => ?_))
   | exact ih0 _ _ _
   | exact LeO.none _
   | refine LeO.ite ?_ ?_
   | refine LeO.bind ?_ (fun _ => ?_)
theorem laws_sameSteps.mono : ∀ a0 a1 k, LeO (laws_sameSteps.f k a0 a1) (laws_sameSteps.f (k + 1) a0 a1) := by
 intro a0 a1 k
 have ih0 := laws_sameSteps.mono_l k
 unfold laws_sameSteps.f
 repeat' first
   | (with_reducible exact ih0 _ _ _)
   | (with_reducible exact LeO.refl _)
   | (with_reducible exact LeO.none _)
   | (with_reducible refine LeO.ite ?_ ?_)
   | (with_reducible refine LeO.bind ?_ (fun _ => ?_))
   | exact ih0 _ _ _
   | exact LeO.none _
   | refine LeO.ite ?_ ?_
   | refine LeO.bind ?_ (fun _ => ?_)
set_option maxHeartbeats 8000000 in
set_option maxRecDepth 100000 in
theorem laws_sameSteps.calls (k : Nat) (A0 : Option Addr) (c0 : Nat) (l0 : List (S87)) (A1 : Option Addr) (c1 : Nat) (l1 : List (S87)) (r : Bool) (w : World) (hr0 : Kd.C k87 w A0 l0.length l0) (hc0 : l0.length ≤ c0) (hr1 : Kd.C k87 w A1 l1.length l1) (hc1 : l1.length ≤ c1) (h : laws_sameSteps.f k l0 l1 = some r) :
  Calls Tryd.prog 16 #[.slice A0 l0.length c0, .slice A1 l1.length c1] w fun e w' => e = .returned (.bool r) ∧ Drawn0 w w' := by
 have hu87 := Tryd.underlying87
 have HR0 := Aside0.mk hr0
 have HC0 := Aside0.mk hc0
 clear hr0 hc0
 have HR1 := Aside0.mk hr1
 have HC1 := Aside0.mk hc1
 clear hr1 hc1
 have H : (if (l0.length : Int) = (l1.length : Int) then (laws_sameSteps.l0 k l0 l1 0) else (some false)) = some r := h
 clear h
 by_cases c3 : (l0.length : Int) = (l1.length : Int)
 ·rw [if_pos c3] at H
  have c3b0 : ((l0.length : Int) == (l1.length : Int)) = true := beq_iff_eq.mpr c3
  have c3b1 : ((l0.length : Int) != (l1.length : Int)) = false := bne_eq_false_iff_eq.mpr c3
  have c3b2 : (l0.length == l1.length) = true := by first | simpa using c3 | (simp at c3 ⊢; omega)
  clear c3
  have H' := Aside0.mk H
  clear H
  go_enter Tryd.func16, Tryd.ntmps16
  go_wp2
  repeat (go_quiet (fail); try go_wp2)
  go_loopg [5] k (fun kq v5 w' => ∃ (x5_1 : Int), v5 = .int .i64 x5_1 ∧ Aside0 (laws_sameSteps.l0 kq l0 l1 x5_1 = some r) ∧ Aside0 (kq ≤ k) ∧ Drawn0 w w')
  case atStart => exact ⟨(0), (by first | rfl | (simp; done) | (simp [*]; done)), H', ⟨Nat.le_refl _⟩, by repeat (first | exact Drawn0.refl _ | apply Drawn0.step)⟩
  case round =>
   clear H'
   try clear c1
   try clear p2
   try clear c3
   try clear c3b0
   try clear c3b1
   try clear c3b2
   obtain ⟨x5_1, rfl, HA, HK1, ⟨m1, rfl⟩⟩ := hrel
   cases gk with
   | zero => exact absurd HA.out (by simp [laws_sameSteps.l0])
   | succ k1 =>
    have H := HA.out
    clear HA
    simp only [laws_sameSteps.l0] at H
    by_cases c4 : x5_1 < (l0.length : Int)
    ·rw [if_pos c4] at H
     have c4b0 : decide (x5_1 < (l0.length : Int)) = true := decide_eq_true c4
     clear c4
     by_cases c5 : 0 ≤ x5_1
     ·rw [if_pos c5] at H
      have c5b0 : decide (0 ≤ x5_1) = true := decide_eq_true c5
      clear c5
      by_cases c6 : x5_1 < (l1.length : Int)
      ·rw [if_pos c6] at H
       have c6b0 : decide (x5_1 < (l1.length : Int)) = true := decide_eq_true c6
       clear c6
       by_cases c7 : (!(((rd_T87 l0 x5_1).f0) == ((rd_T87 l1 x5_1).f0)) || (!(((rd_T87 l0 x5_1).f1) == ((rd_T87 l1 x5_1).f1)))) = true
       ·rw [if_pos c7] at H
        have c7b0 : (!(((rd_T87 l0 x5_1).f0) == ((rd_T87 l1 x5_1).f0)) || (!(((rd_T87 l0 x5_1).f1) == ((rd_T87 l1 x5_1).f1)))) = true := c7
        clear c7
        obtain rfl := Option.some.inj H
        have p353 : 0 ≤ (x5_1 : Int) := of_decide_eq_true (by first | (with_reducible assumption) | assumption)
        have q353 : x5_1 < (l0.length : Int) := of_decide_eq_true (by first | (with_reducible assumption) | assumption)
        obtain ⟨ad353, e353, hx353_0, hx353_1⟩ := at_T87 HR0.out x5_1 p353 q353
        cases e353
        replace p353 := eq_true p353
        replace q353 := eq_true q353
        have p354 : 0 ≤ (x5_1 : Int) := of_decide_eq_true (by first | (with_reducible assumption) | assumption)
        have q354 : x5_1 < (l1.length : Int) := of_decide_eq_true (by first | (with_reducible assumption) | assumption)
        obtain ⟨ad354, e354, hx354_0, hx354_1⟩ := at_T87 HR1.out x5_1 p354 q354
        cases e354
        replace p354 := eq_true p354
        replace q354 := eq_true q354
        go_wp2
        repeat (go_quiet (fail); try go_wp2)
        go_ret
        exact ⟨by first | rfl | (simp; done) | (simp [*]; done), by repeat (first | exact Drawn0.refl _ | apply Drawn0.step)⟩
       ·rw [if_neg c7] at H
        have c7b0 : (!(((rd_T87 l0 x5_1).f0) == ((rd_T87 l1 x5_1).f0)) || (!(((rd_T87 l0 x5_1).f1) == ((rd_T87 l1 x5_1).f1)))) = false := by simpa using c7
        clear c7
        have H' := Aside0.mk H
        clear H
        have p353 : 0 ≤ (x5_1 : Int) := of_decide_eq_true (by first | (with_reducible assumption) | assumption)
        have q353 : x5_1 < (l0.length : Int) := of_decide_eq_true (by first | (with_reducible assumption) | assumption)
        obtain ⟨ad353, e353, hx353_0, hx353_1⟩ := at_T87 HR0.out x5_1 p353 q353
        cases e353
        replace p353 := eq_true p353
        replace q353 := eq_true q353
        have p354 : 0 ≤ (x5_1 : Int) := of_decide_eq_true (by first | (with_reducible assumption) | assumption)
        have q354 : x5_1 < (l1.length : Int) := of_decide_eq_true (by first | (with_reducible assumption) | assumption)
        obtain ⟨ad354, e354, hx354_0, hx354_1⟩ := at_T87 HR1.out x5_1 p354 q354
        cases e354
        replace p354 := eq_true p354
        replace q354 := eq_true q354
        go_wp2
        repeat (go_quiet (fail); try go_wp2)
        go_roundg k1
        case measure => have := HK1.out; omega
        case rel => exact ⟨(wrap64 (x5_1 + 1)), (by first | rfl | (simp; done) | (simp [*]; done)), H', ⟨by have := HK1.out; omega⟩, by repeat (first | exact Drawn0.refl _ | apply Drawn0.step)⟩
      ·rw [if_neg c6] at H
       exact absurd H (by simp)
     ·rw [if_neg c5] at H
      exact absurd H (by simp)
    ·rw [if_neg c4] at H
     have c4b0 : decide (x5_1 < (l0.length : Int)) = false := decide_eq_false c4
     clear c4
     obtain rfl := Option.some.inj H
     go_wp2
     repeat (go_quiet (fail); try go_wp2)
     go_ret
     exact ⟨by first | rfl | (simp; done) | (simp [*]; done), by repeat (first | exact Drawn0.refl _ | apply Drawn0.step)⟩
 ·rw [if_neg c3] at H
  have c3b0 : ((l0.length : Int) == (l1.length : Int)) = false := beq_eq_false_iff_ne.mpr c3
  have c3b1 : ((l0.length : Int) != (l1.length : Int)) = true := bne_iff_ne.mpr c3
  have c3b2 : (l0.length == l1.length) = false := by first | simpa using c3 | (simp at c3 ⊢; omega)
  obtain rfl := Option.some.inj H
  go_enter Tryd.func16, Tryd.ntmps16
  go_wp2
  repeat (go_quiet (fail); try go_wp2)
  go_ret
  exact ⟨by first | rfl | (simp; done) | (simp [*]; done), by repeat (first | exact Drawn0.refl _ | apply Drawn0.step)⟩

/-! ### laws_sameBools: function 19 -/
def laws_sameBools.l0 : Nat → List Bool → List Bool → Int → Option (Bool)
 | 0, _, _, _ => none
 | k + 1, x0, x1, x5 => if x5 < (x0.length : Int) then (if 0 ≤ x5 then (if x5 < (x1.length : Int) then (if ((rdOf false x0 x5) != (rdOf false x1 x5)) = true then (some false) else (laws_sameBools.l0 k x0 x1 (wrap64 (x5 + 1)))) else (none)) else (none)) else (some true)
def laws_sameBools.f (k : Nat) (l0 : List Bool) (l1 : List Bool) : Option (Bool) := if (l0.length : Int) = (l1.length : Int) then (laws_sameBools.l0 k l0 l1 0) else (some false)
theorem laws_sameBools.mono_l : ∀ k, (∀ y0 y1 y2, LeO (laws_sameBools.l0 k y0 y1 y2) (laws_sameBools.l0 (k + 1) y0 y1 y2))
 | 0 => fun _ _ _ r h => by simp [laws_sameBools.l0] at h
 | k + 1 => by
  have ih0 := laws_sameBools.mono_l k
  ·intro y0 y1 y2
   unfold laws_sameBools.l0
   repeat' first
   | (with_reducible exact ih0 _ _ _)
   | (with_reducible exact LeO.refl _)
   | (with_reducible exact LeO.none _)
   | (with_reducible refine LeO.ite ?_ ?_)
   | (with_reducible refine LeO.bind ?_ (fun _ => ?_))
   | exact ih0 _ _ _
   | exact LeO.none _
   | refine LeO.ite ?_ ?_
   | refine LeO.bind ?_ (fun _ => ?_)
theorem laws_sameBools.mono : ∀ a0 a1 k, LeO (laws_sameBools.f k a0 a1) (laws_sameBools.f (k + 1) a0 a1) := by
 intro a0 a1 k
 have ih0 := laws_sameBools.mono_l k
 unfold laws_sameBools.f
 repeat' first
   | (with_reducible exact ih0 _ _ _)
   | (with_reducible exact LeO.refl _)
   | (with_reducible exact LeO.none _)
   | (with_reducible refine LeO.ite ?_ ?_)
   | (with_reducible refine LeO.bind ?_ (fun _ => ?_))
   | exact ih0 _ _ _
   | exact LeO.none _
   | refine LeO.ite ?_ ?_
   | refine LeO.bind ?_ (fun _ => ?_)
set_option maxHeartbeats 8000000 in
set_option maxRecDepth 100000 in
theorem laws_sameBools.calls (k : Nat) (A0 : Option Addr) (c0 : Nat) (l0 : List Bool) (A1 : Option Addr) (c1 : Nat) (l1 : List Bool) (r : Bool) (w : World) (hr0 : Kd.C Kd.bool w A0 l0.length l0) (hc0 : l0.length ≤ c0) (hr1 : Kd.C Kd.bool w A1 l1.length l1) (hc1 : l1.length ≤ c1) (h : laws_sameBools.f k l0 l1 = some r) :
  Calls Tryd.prog 19 #[.slice A0 l0.length c0, .slice A1 l1.length c1] w fun e w' => e = .returned (.bool r) ∧ Drawn0 w w' := by
 have HR0 := Aside0.mk hr0
 have HC0 := Aside0.mk hc0
 clear hr0 hc0
 have HR1 := Aside0.mk hr1
 have HC1 := Aside0.mk hc1
 clear hr1 hc1
 have H : (if (l0.length : Int) = (l1.length : Int) then (laws_sameBools.l0 k l0 l1 0) else (some false)) = some r := h
 clear h
 by_cases c3 : (l0.length : Int) = (l1.length : Int)
 ·rw [if_pos c3] at H
  have c3b0 : ((l0.length : Int) == (l1.length : Int)) = true := beq_iff_eq.mpr c3
  have c3b1 : ((l0.length : Int) != (l1.length : Int)) = false := bne_eq_false_iff_eq.mpr c3
  have c3b2 : (l0.length == l1.length) = true := by first | simpa using c3 | (simp at c3 ⊢; omega)
  clear c3
  have H' := Aside0.mk H
  clear H
  go_enter Tryd.func19, Tryd.ntmps19
  go_wp2
  repeat (go_quiet (fail); try go_wp2)
  go_loopg [5] k (fun kq v5 w' => ∃ (x5_1 : Int), v5 = .int .i64 x5_1 ∧ Aside0 (laws_sameBools.l0 kq l0 l1 x5_1 = some r) ∧ Aside0 (kq ≤ k) ∧ Drawn0 w w')
  case atStart => exact ⟨(0), (by first | rfl | (simp; done) | (simp [*]; done)), H', ⟨Nat.le_refl _⟩, by repeat (first | exact Drawn0.refl _ | apply Drawn0.step)⟩
  case round =>
   clear H'
   try clear c1
   try clear p2
   try clear c3
   try clear c3b0
   try clear c3b1
   try clear c3b2
   obtain ⟨x5_1, rfl, HA, HK1, ⟨m1, rfl⟩⟩ := hrel
   cases gk with
   | zero => exact absurd HA.out (by simp [laws_sameBools.l0])
   | succ k1 =>
    have H := HA.out
    clear HA
    simp only [laws_sameBools.l0] at H
    by_cases c4 : x5_1 < (l0.length : Int)
    ·rw [if_pos c4] at H
     have c4b0 : decide (x5_1 < (l0.length : Int)) = true := decide_eq_true c4
     clear c4
     by_cases c5 : 0 ≤ x5_1
     ·rw [if_pos c5] at H
      have c5b0 : decide (0 ≤ x5_1) = true := decide_eq_true c5
      clear c5
      by_cases c6 : x5_1 < (l1.length : Int)
      ·rw [if_pos c6] at H
       have c6b0 : decide (x5_1 < (l1.length : Int)) = true := decide_eq_true c6
       clear c6
       by_cases c7 : ((rdOf false l0 x5_1) != (rdOf false l1 x5_1)) = true
       ·rw [if_pos c7] at H
        have c7b0 : ((rdOf false l0 x5_1) != (rdOf false l1 x5_1)) = true := c7
        (try (have c7b1 : decide ((rdOf false l0 x5_1) = (rdOf false l1 x5_1)) = false := by simpa using c7))
        (try (have c7b2 : ((rdOf false l0 x5_1) == (rdOf false l1 x5_1)) = false := by simpa using c7))
        (try (have c7b3 : ¬ ((rdOf false l0 x5_1) = (rdOf false l1 x5_1)) := by simpa using c7))
        clear c7
        obtain rfl := Option.some.inj H
        have p396 : 0 ≤ (x5_1 : Int) := of_decide_eq_true (by first | (with_reducible assumption) | assumption)
        have q396 : x5_1 < (l0.length : Int) := of_decide_eq_true (by first | (with_reducible assumption) | assumption)
        obtain ⟨ad396, e396, hx396_0⟩ := Kd.at_bool HR0.out x5_1 p396 q396
        cases e396
        replace p396 := eq_true p396
        replace q396 := eq_true q396
        have p397 : 0 ≤ (x5_1 : Int) := of_decide_eq_true (by first | (with_reducible assumption) | assumption)
        have q397 : x5_1 < (l1.length : Int) := of_decide_eq_true (by first | (with_reducible assumption) | assumption)
        obtain ⟨ad397, e397, hx397_0⟩ := Kd.at_bool HR1.out x5_1 p397 q397
        cases e397
        replace p397 := eq_true p397
        replace q397 := eq_true q397
        go_wp2
        repeat (go_quiet (fail); try go_wp2)
        go_ret
        exact ⟨by first | rfl | (simp; done) | (simp [*]; done), by repeat (first | exact Drawn0.refl _ | apply Drawn0.step)⟩
       ·rw [if_neg c7] at H
        have c7b0 : ((rdOf false l0 x5_1) != (rdOf false l1 x5_1)) = false := by simpa using c7
        (try (have c7b1 : decide ((rdOf false l0 x5_1) = (rdOf false l1 x5_1)) = true := by simpa using c7))
        (try (have c7b2 : ((rdOf false l0 x5_1) == (rdOf false l1 x5_1)) = true := by simpa using c7))
        clear c7
        have H' := Aside0.mk H
        clear H
        have p396 : 0 ≤ (x5_1 : Int) := of_decide_eq_true (by first | (with_reducible assumption) | assumption)
        have q396 : x5_1 < (l0.length : Int) := of_decide_eq_true (by first | (with_reducible assumption) | assumption)
        obtain ⟨ad396, e396, hx396_0⟩ := Kd.at_bool HR0.out x5_1 p396 q396
        cases e396
        replace p396 := eq_true p396
        replace q396 := eq_true q396
        have p397 : 0 ≤ (x5_1 : Int) := of_decide_eq_true (by first | (with_reducible assumption) | assumption)
        have q397 : x5_1 < (l1.length : Int) := of_decide_eq_true (by first | (with_reducible assumption) | assumption)
        obtain ⟨ad397, e397, hx397_0⟩ := Kd.at_bool HR1.out x5_1 p397 q397
        cases e397
        replace p397 := eq_true p397
        replace q397 := eq_true q397
        go_wp2
        repeat (go_quiet (fail); try go_wp2)
        go_roundg k1
        case measure => have := HK1.out; omega
        case rel => exact ⟨(wrap64 (x5_1 + 1)), (by first | rfl | (simp; done) | (simp [*]; done)), H', ⟨by have := HK1.out; omega⟩, by repeat (first | exact Drawn0.refl _ | apply Drawn0.step)⟩
      ·rw [if_neg c6] at H
       exact absurd H (by simp)
     ·rw [if_neg c5] at H
      exact absurd H (by simp)
    ·rw [if_neg c4] at H
     have c4b0 : decide (x5_1 < (l0.length : Int)) = false := decide_eq_false c4
     clear c4
     obtain rfl := Option.some.inj H
     go_wp2
     repeat (go_quiet (fail); try go_wp2)
     go_ret
     exact ⟨by first | rfl | (simp; done) | (simp [*]; done), by repeat (first | exact Drawn0.refl _ | apply Drawn0.step)⟩
 ·rw [if_neg c3] at H
  have c3b0 : ((l0.length : Int) == (l1.length : Int)) = false := beq_eq_false_iff_ne.mpr c3
  have c3b1 : ((l0.length : Int) != (l1.length : Int)) = true := bne_iff_ne.mpr c3
  have c3b2 : (l0.length == l1.length) = false := by first | simpa using c3 | (simp at c3 ⊢; omega)
  obtain rfl := Option.some.inj H
  go_enter Tryd.func19, Tryd.ntmps19
  go_wp2
  repeat (go_quiet (fail); try go_wp2)
  go_ret
  exact ⟨by first | rfl | (simp; done) | (simp [*]; done), by repeat (first | exact Drawn0.refl _ | apply Drawn0.step)⟩

/-! ### laws_FnOrderTo: function 4 -/
mutual
def laws_FnOrderTo.j0 : Nat → List Bool → List Bool → List (S87) → Bool → Option (Bool)
 | 0, _, _, _, _ => none
 | k + 1, x3, x4, x5, x36 => if x36 = true then (if (x5.length : Int) = 0 then ((laws_alive.f k).bind fun t416 => (some t416)) else (some false)) else (laws_FnOrderTo.l0 k x3 x4 x5 0 2 ([] : List (S42)))
def laws_FnOrderTo.l0 : Nat → List Bool → List Bool → List (S87) → Int → Int → List (S42) → Option (Bool)
 | 0, _, _, _, _, _, _ => none
 | k + 1, x3, x4, x5, x7, x418000, x418001 => if x7 < (x3.length : Int) then (if x418001.length < 5864062014805 then (laws_FnOrderTo.l0 k x3 x4 x5 (wrap64 (x7 + 1)) x418000 (x418001 ++ [(⟨0, 1, 1⟩ : S42)])) else (none)) else ((impl_OrderRun.f k x418000 x418001 x3 x5).bind fun bt421 => ((laws_sameBools.f k bt421.1 x4).bind fun t425 => (if t425 = true then (if bt421.2 = (x5.length : Int) then ((impl_Changes.f k x3 x4).bind fun t426 => (some (bt421.2 == (t426.length : Int)))) else (some false)) else (some false))))
end
def laws_FnOrderTo.f (k : Nat) (l0 : List Int) : Option (Bool) := if (l0.length : Int) > 1048576 then (some true) else ((spec_DrawOrderTo.f k l0).bind fun bt403 => ((impl_OrderTo.f k bt403.1 bt403.2).bind fun t409 => ((spec_OrderTo.f k bt403.1 bt403.2).bind fun t412 => ((laws_sameSteps.f k t409 t412).bind fun t415 => (if t415 = true then (if (bt403.1.length : Int) = (bt403.2.length : Int) then (laws_FnOrderTo.j0 k bt403.1 bt403.2 t409 (decide ((bt403.1.length : Int) > 10))) else (laws_FnOrderTo.j0 k bt403.1 bt403.2 t409 true)) else (some false))))))
theorem laws_FnOrderTo.mono_l : ∀ k, (∀ y0 y1 y2 y3, LeO (laws_FnOrderTo.j0 k y0 y1 y2 y3) (laws_FnOrderTo.j0 (k + 1) y0 y1 y2 y3)) ∧ (∀ y0 y1 y2 y3 y4 y5, LeO (laws_FnOrderTo.l0 k y0 y1 y2 y3 y4 y5) (laws_FnOrderTo.l0 (k + 1) y0 y1 y2 y3 y4 y5))
 | 0 => ⟨fun _ _ _ _ r h => by simp [laws_FnOrderTo.j0] at h, fun _ _ _ _ _ _ r h => by simp [laws_FnOrderTo.l0] at h⟩
 | k + 1 => by
  obtain ⟨ih0, ih1⟩ := laws_FnOrderTo.mono_l k
  refine ⟨?_, ?_⟩
  ·intro y0 y1 y2 y3
   unfold laws_FnOrderTo.j0
   repeat' first
   | (with_reducible exact ih0 _ _ _ _)
   | (with_reducible exact ih1 _ _ _ _ _ _)
   | (with_reducible exact impl_Changes.mono _ _ _)
   | (with_reducible exact impl_OrderRun.mono _ _ _ _ _)
   | (with_reducible exact impl_OrderTo.mono _ _ _)
   | (with_reducible exact laws_alive.mono _)
   | (with_reducible exact laws_sameBools.mono _ _ _)
   | (with_reducible exact laws_sameSteps.mono _ _ _)
   | (with_reducible exact spec_DrawOrderTo.mono _ _)
   | (with_reducible exact spec_OrderTo.mono _ _ _)
   | (with_reducible exact LeO.refl _)
   | (with_reducible exact LeO.none _)
   | (with_reducible refine LeO.ite ?_ ?_)
   | (with_reducible refine LeO.bind ?_ (fun _ => ?_))
   | exact ih0 _ _ _ _
   | exact ih1 _ _ _ _ _ _
   | exact impl_Changes.mono _ _ _
   | exact impl_OrderRun.mono _ _ _ _ _
   | exact impl_OrderTo.mono _ _ _
   | exact laws_alive.mono _
   | exact laws_sameBools.mono _ _ _
   | exact laws_sameSteps.mono _ _ _
   | exact spec_DrawOrderTo.mono _ _
   | exact spec_OrderTo.mono _ _ _
   | exact LeO.none _
   | refine LeO.ite ?_ ?_
   | refine LeO.bind ?_ (fun _ => ?_)
  ·intro y0 y1 y2 y3 y4 y5
   unfold laws_FnOrderTo.l0
   repeat' first
   | (with_reducible exact ih0 _ _ _ _)
   | (with_reducible exact ih1 _ _ _ _ _ _)
   | (with_reducible exact impl_Changes.mono _ _ _)
   | (with_reducible exact impl_OrderRun.mono _ _ _ _ _)
   | (with_reducible exact impl_OrderTo.mono _ _ _)
   | (with_reducible exact laws_alive.mono _)
   | (with_reducible exact laws_sameBools.mono _ _ _)
   | (with_reducible exact laws_sameSteps.mono _ _ _)
   | (with_reducible exact spec_DrawOrderTo.mono _ _)
   | (with_reducible exact spec_OrderTo.mono _ _ _)
   | (with_reducible exact LeO.refl _)
   | (with_reducible exact LeO.none _)
   | (with_reducible refine LeO.ite ?_ ?_)
   | (with_reducible refine LeO.bind ?_ (fun _ => ?_))
   | exact ih0 _ _ _ _
   | exact ih1 _ _ _ _ _ _
   | exact impl_Changes.mono _ _ _
   | exact impl_OrderRun.mono _ _ _ _ _
   | exact impl_OrderTo.mono _ _ _
   | exact laws_alive.mono _
   | exact laws_sameBools.mono _ _ _
   | exact laws_sameSteps.mono _ _ _
   | exact spec_DrawOrderTo.mono _ _
   | exact spec_OrderTo.mono _ _ _
   | exact LeO.none _
   | refine LeO.ite ?_ ?_
   | refine LeO.bind ?_ (fun _ => ?_)
theorem laws_FnOrderTo.mono : ∀ a0 k, LeO (laws_FnOrderTo.f k a0) (laws_FnOrderTo.f (k + 1) a0) := by
 intro a0 k
 obtain ⟨ih0, ih1⟩ := laws_FnOrderTo.mono_l k
 unfold laws_FnOrderTo.f
 repeat' first
   | (with_reducible exact ih0 _ _ _ _)
   | (with_reducible exact ih1 _ _ _ _ _ _)
   | (with_reducible exact impl_Changes.mono _ _ _)
   | (with_reducible exact impl_OrderRun.mono _ _ _ _ _)
   | (with_reducible exact impl_OrderTo.mono _ _ _)
   | (with_reducible exact laws_alive.mono _)
   | (with_reducible exact laws_sameBools.mono _ _ _)
   | (with_reducible exact laws_sameSteps.mono _ _ _)
   | (with_reducible exact spec_DrawOrderTo.mono _ _)
   | (with_reducible exact spec_OrderTo.mono _ _ _)
   | (with_reducible exact LeO.refl _)
   | (with_reducible exact LeO.none _)
   | (with_reducible refine LeO.ite ?_ ?_)
   | (with_reducible refine LeO.bind ?_ (fun _ => ?_))
   | exact ih0 _ _ _ _
   | exact ih1 _ _ _ _ _ _
   | exact impl_Changes.mono _ _ _
   | exact impl_OrderRun.mono _ _ _ _ _
   | exact impl_OrderTo.mono _ _ _
   | exact laws_alive.mono _
   | exact laws_sameBools.mono _ _ _
   | exact laws_sameSteps.mono _ _ _
   | exact spec_DrawOrderTo.mono _ _
   | exact spec_OrderTo.mono _ _ _
   | exact LeO.none _
   | refine LeO.ite ?_ ?_
   | refine LeO.bind ?_ (fun _ => ?_)
set_option maxHeartbeats 8000000 in
set_option maxRecDepth 100000 in
theorem laws_FnOrderTo.calls (k : Nat) (A0 : Option Addr) (c0 : Nat) (l0 : List Int) (r : Bool) (w : World) (hr0 : Kd.C (Kd.int .u8) w A0 l0.length l0) (hc0 : l0.length ≤ c0) (h : laws_FnOrderTo.f k l0 = some r) :
  Calls Tryd.prog 4 #[.slice A0 l0.length c0] w fun e w' => e = .returned (.bool r) ∧ Below w.heap.size w w' := by
 have hu40 := Tryd.underlying40
 have hu42 := Tryd.underlying42
 have HR0 := Aside0.mk hr0
 have HC0 := Aside0.mk hc0
 clear hr0 hc0
 have HB := Aside0.mk (Below.refl w.heap.size w)
 have H : (if (l0.length : Int) > 1048576 then (some true) else ((spec_DrawOrderTo.f k l0).bind fun bt403 => ((impl_OrderTo.f k bt403.1 bt403.2).bind fun t409 => ((spec_OrderTo.f k bt403.1 bt403.2).bind fun t412 => ((laws_sameSteps.f k t409 t412).bind fun t415 => (if t415 = true then (if (bt403.1.length : Int) = (bt403.2.length : Int) then (laws_FnOrderTo.j0 k bt403.1 bt403.2 t409 (decide ((bt403.1.length : Int) > 10))) else (laws_FnOrderTo.j0 k bt403.1 bt403.2 t409 true)) else (some false))))))) = some r := h
 clear h
 by_cases c2 : (l0.length : Int) > 1048576
 ·rw [if_pos c2] at H
  have c2b0 : decide (1048576 < (l0.length : Int)) = true := decide_eq_true c2
  have c2b1 : decide (1048576 < l0.length) = true := decide_eq_true (by omega)
  clear c2
  obtain rfl := Option.some.inj H
  go_enter Tryd.func4, Tryd.ntmps4
  go_wp2
  go_ret
  exact ⟨by first | rfl | (simp [errW_none, errW_some] <;> rfl) | (simp [*, errW_none, errW_some] <;> rfl), bw⟩
 ·rw [if_neg c2] at H
  have c2b0 : decide (1048576 < (l0.length : Int)) = false := decide_eq_false c2
  have c2b1 : decide (1048576 < l0.length) = false := decide_eq_false (by omega)
  clear c2
  replace H := Option.bind_eq_some_iff.mp H
  obtain ⟨⟨t403, t404⟩, A30, H⟩ := H
  replace H : ((impl_OrderTo.f k t403 t404).bind fun t409 => ((spec_OrderTo.f k t403 t404).bind fun t412 => ((laws_sameSteps.f k t409 t412).bind fun t415 => (if t415 = true then (if (t403.length : Int) = (t404.length : Int) then (laws_FnOrderTo.j0 k t403 t404 t409 (decide ((t403.length : Int) > 10))) else (laws_FnOrderTo.j0 k t403 t404 t409 true)) else (some false))))) = some r := H
  have A3 := Aside0.mk A30
  clear A30
  replace H := Option.bind_eq_some_iff.mp H
  obtain ⟨t409, A40, H⟩ := H
  replace H : ((spec_OrderTo.f k t403 t404).bind fun t412 => ((laws_sameSteps.f k t409 t412).bind fun t415 => (if t415 = true then (if (t403.length : Int) = (t404.length : Int) then (laws_FnOrderTo.j0 k t403 t404 t409 (decide ((t403.length : Int) > 10))) else (laws_FnOrderTo.j0 k t403 t404 t409 true)) else (some false)))) = some r := H
  have A4 := Aside0.mk A40
  clear A40
  replace H := Option.bind_eq_some_iff.mp H
  obtain ⟨t412, A50, H⟩ := H
  replace H : ((laws_sameSteps.f k t409 t412).bind fun t415 => (if t415 = true then (if (t403.length : Int) = (t404.length : Int) then (laws_FnOrderTo.j0 k t403 t404 t409 (decide ((t403.length : Int) > 10))) else (laws_FnOrderTo.j0 k t403 t404 t409 true)) else (some false))) = some r := H
  have A5 := Aside0.mk A50
  clear A50
  replace H := Option.bind_eq_some_iff.mp H
  obtain ⟨t415, A60, H⟩ := H
  replace H : (if t415 = true then (if (t403.length : Int) = (t404.length : Int) then (laws_FnOrderTo.j0 k t403 t404 t409 (decide ((t403.length : Int) > 10))) else (laws_FnOrderTo.j0 k t403 t404 t409 true)) else (some false)) = some r := H
  have A6 := Aside0.mk A60
  clear A60
  by_cases c7 : t415 = true
  ·subst c7
   have H1 : (if (t403.length : Int) = (t404.length : Int) then (laws_FnOrderTo.j0 k t403 t404 t409 (decide ((t403.length : Int) > 10))) else (laws_FnOrderTo.j0 k t403 t404 t409 true)) = some r := by rw [if_pos rfl] at H; exact H
   clear H
   have H := H1
   clear H1
   have HC8 := Aside0.mk H
   clear H
   go_enter Tryd.func4, Tryd.ntmps4
   have TK0_ := Aside0.mk trivial; have TK1_ := Aside0.mk trivial; have TK2_ := Aside0.mk trivial; have TK3_ := Aside0.mk trivial
   go_upto_region 7 with (first | (clear TK0_; (with_reducible refine gate_callee (f := 14) rfl ?_); refine goesL_ (some 15) rfl rfl Tryd.func14 (by kernel_rfl) rfl #[.slice A0 l0.length c0] rfl (by (try simp only [List.map_toArray, List.map_cons, List.map_nil]); first | done | rfl | (simp only [List.length_drop, List.length_take]; rfl)) ?_; (with_reducible refine (spec_DrawOrderTo.calls k _ _ l0 t403 t404 _ ?side1 ?side2 A3.out).mono ?_); (case side1 => repeat (first | exact HR0.out | (with_reducible refine Kd.C_alloc ?_ _) | (with_reducible refine Kd.C_drewN ?_ _) | (with_reducible refine Kd.C_drew ?_))); (case side2 => exact HC0.out); rintro e w9 ⟨v405, v407, rfl, ho0, ho1, hb⟩; refine ⟨_, rfl, ?_⟩; have n0_ := Aside0.mk (Kd.R_lower ho0 (below_size bw)); have n1_ := Aside0.mk (Kd.R_lower ho1 (below_size bw)); have n2_ := Aside0.mk (below_step bw hb); clear HB; have HO406 := n0_; have HO408 := n1_; have HB := n2_; clear n0_ n1_ n2_; (try clear hb); (try clear hb2); (try clear hk); (try clear hi); (try clear ho0); (try clear ho1); obtain ⟨Ao10, co10, eo10⟩ := Kd.R_slice HO406.out; subst eo10; obtain ⟨Ao11, co11, eo11⟩ := Kd.R_slice HO408.out; subst eo11) | (clear TK1_; (with_reducible refine gate_callee (f := 15) rfl ?_); refine goesL_ (some 20) rfl rfl Tryd.func15 (by kernel_rfl) rfl #[.slice Ao10 t403.length co10, .slice Ao11 t404.length co11] rfl (by (try simp only [List.map_toArray, List.map_cons, List.map_nil]); first | done | rfl | (simp only [List.length_drop, List.length_take]; rfl)) ?_; (with_reducible refine (impl_OrderTo.calls k _ _ t403 _ _ t404 t409 _ ?side1 ?side2 ?side3 ?side4 A4.out).mono ?_); (case side1 => repeat (first | exact (Kd.R_reads' HO406.out).2.2 | (with_reducible refine Kd.C_alloc ?_ _) | (with_reducible refine Kd.C_drewN ?_ _) | (with_reducible refine Kd.C_drew ?_))); (case side2 => exact (Kd.R_reads' HO406.out).2.1); (case side3 => repeat (first | exact (Kd.R_reads' HO408.out).2.2 | (with_reducible refine Kd.C_alloc ?_ _) | (with_reducible refine Kd.C_drewN ?_ _) | (with_reducible refine Kd.C_drew ?_))); (case side4 => exact (Kd.R_reads' HO408.out).2.1); rintro e w12 ⟨v410, rfl, ho0, hb⟩; refine ⟨_, rfl, ?_⟩; have n0_ := rB HO406 hb; have n1_ := rB HO408 hb; have n2_ := Aside0.mk (Kd.R_lower ho0 (below_size bw)); have n3_ := Aside0.mk (below_step bw hb); clear HO406 HO408 HB; have HO406 := n0_; have HO408 := n1_; have HO411 := n2_; have HB := n3_; clear n0_ n1_ n2_ n3_; (try clear hb); (try clear hb2); (try clear hk); (try clear hi); (try clear ho0)) | (clear TK2_; (with_reducible refine gate_callee (f := 17) rfl ?_); refine goesL_ (some 24) rfl rfl Tryd.func17 (by kernel_rfl) rfl #[.slice Ao10 t403.length co10, .slice Ao11 t404.length co11] rfl (by (try simp only [List.map_toArray, List.map_cons, List.map_nil]); first | done | rfl | (simp only [List.length_drop, List.length_take]; rfl)) ?_; (with_reducible refine (spec_OrderTo.calls k _ _ t403 _ _ t404 t412 _ ?side1 ?side2 ?side3 ?side4 A5.out).mono ?_); (case side1 => repeat (first | exact (Kd.R_reads' HO406.out).2.2 | (with_reducible refine Kd.C_alloc ?_ _) | (with_reducible refine Kd.C_drewN ?_ _) | (with_reducible refine Kd.C_drew ?_))); (case side2 => exact (Kd.R_reads' HO406.out).2.1); (case side3 => repeat (first | exact (Kd.R_reads' HO408.out).2.2 | (with_reducible refine Kd.C_alloc ?_ _) | (with_reducible refine Kd.C_drewN ?_ _) | (with_reducible refine Kd.C_drew ?_))); (case side4 => exact (Kd.R_reads' HO408.out).2.1); rintro e w13 ⟨v413, rfl, ho0, hb⟩; refine ⟨_, rfl, ?_⟩; have n0_ := rB HO406 hb; have n1_ := rB HO408 hb; have n2_ := Aside0.mk (Kd.R_elder' (rk HO411) (Kd.R_base ho0) hb); have n3_ := Aside0.mk (Kd.R_lower (Kd.R_new' ho0 (Kd.R_lt (rk HO411))) (below_size bw)); have n4_ := Aside0.mk (below_step bw hb); clear HO406 HO408 HO411 HB; have HO406 := n0_; have HO408 := n1_; have HO411 := n2_; have HO414 := n3_; have HB := n4_; clear n0_ n1_ n2_ n3_ n4_; (try clear hb); (try clear hb2); (try clear hk); (try clear hi); (try clear ho0); obtain ⟨Ao14, co14, eo14⟩ := Kd.R_slice HO411.out; subst eo14; obtain ⟨Ao15, co15, eo15⟩ := Kd.R_slice HO414.out; subst eo15) | (clear TK3_; (with_reducible refine gate_callee (f := 16) rfl ?_); refine goesL_ (some 25) rfl rfl Tryd.func16 (by kernel_rfl) rfl #[.slice Ao14 t409.length co14, .slice Ao15 t412.length co15] rfl (by (try simp only [List.map_toArray, List.map_cons, List.map_nil]); first | done | rfl | (simp only [List.length_drop, List.length_take]; rfl)) ?_; (with_reducible refine (laws_sameSteps.calls k _ _ t409 _ _ t412 true _ ?side1 ?side2 ?side3 ?side4 A6.out).mono ?_); (case side1 => repeat (first | exact (Kd.R_reads' HO411.out).2.2 | (with_reducible refine Kd.C_alloc ?_ _) | (with_reducible refine Kd.C_drewN ?_ _) | (with_reducible refine Kd.C_drew ?_))); (case side2 => exact (Kd.R_reads' HO411.out).2.1); (case side3 => repeat (first | exact (Kd.R_reads' HO414.out).2.2 | (with_reducible refine Kd.C_alloc ?_ _) | (with_reducible refine Kd.C_drewN ?_ _) | (with_reducible refine Kd.C_drew ?_))); (case side4 => exact (Kd.R_reads' HO414.out).2.1); rintro e w' ⟨rfl, ⟨nd, rfl⟩⟩; refine ⟨_, rfl, ?_⟩))
   (try simp only [Act.put, List.setIfInBounds_toArray, List.set_cons_zero, List.set_cons_succ])
   go_cut [36] (fun v36 wc => ∃ (kq : Nat) (x36_7 : Bool), v36 = .bool x36_7 ∧ Aside0 (laws_FnOrderTo.j0 kq t403 t404 t409 x36_7 = some r) ∧ Aside0 (kq ≤ k) ∧ Aside0 (Kd.R Kd.bool 4 wc w.heap.size (fun k_ => some k_ ≠ ((.slice Ao11 t404.length co11) : Value).ownBlock) (.slice Ao10 t403.length co10) t403) ∧ Aside0 (Kd.R Kd.bool 4 wc w.heap.size (fun k_ => some k_ ≠ ((.slice Ao10 t403.length co10) : Value).ownBlock) (.slice Ao11 t404.length co11) t404) ∧ Aside0 (Kd.R k87 87 wc w.heap.size (fun _ => True) (.slice Ao14 t409.length co14) t409) ∧ Aside0 (Below w.heap.size w wc))
   case first =>
    have H := HC8.out
    clear HC8
    by_cases c16 : (t403.length : Int) = (t404.length : Int)
    ·rw [if_pos c16] at H
     have c16b0 : ((t403.length : Int) == (t404.length : Int)) = true := beq_iff_eq.mpr c16
     have c16b1 : ((t403.length : Int) != (t404.length : Int)) = false := bne_eq_false_iff_eq.mpr c16
     have c16b2 : (t403.length == t404.length) = true := by first | simpa using c16 | (simp at c16 ⊢; omega)
     clear c16
     (first | rw [c16b0] | (simp only [i64_w, i32_w]; rw [c16b0]) | skip)
     have H' := Aside0.mk H
     clear H
     go_wp2
     go_meet
     case rel => exact ⟨_, (decide ((t403.length : Int) > 10)), (by first | rfl | (simp; done) | (simp [*]; done)), H', ⟨by first | omega | exact Nat.le_refl _⟩, ⟨rk HO406⟩, ⟨rk HO408⟩, ⟨by (with_reducible repeat (first | apply Kd.R_alloc | apply Kd.R_drewN | apply Kd.R_drew)); exact Kd.R_mono HO411.out (fun _ hk => trivial)⟩, ⟨bw⟩⟩
    ·rw [if_neg c16] at H
     have c16b0 : ((t403.length : Int) == (t404.length : Int)) = false := beq_eq_false_iff_ne.mpr c16
     have c16b1 : ((t403.length : Int) != (t404.length : Int)) = true := bne_iff_ne.mpr c16
     have c16b2 : (t403.length == t404.length) = false := by first | simpa using c16 | (simp at c16 ⊢; omega)
     (first | rw [c16b0] | (simp only [i64_w, i32_w]; rw [c16b0]) | skip)
     have H' := Aside0.mk H
     clear H
     go_wp2
     go_meet
     case rel => exact ⟨_, (true), (by first | rfl | (simp; done) | (simp [*]; done)), H', ⟨by first | omega | exact Nat.le_refl _⟩, ⟨rk HO406⟩, ⟨rk HO408⟩, ⟨by (with_reducible repeat (first | apply Kd.R_alloc | apply Kd.R_drewN | apply Kd.R_drew)); exact Kd.R_mono HO411.out (fun _ hk => trivial)⟩, ⟨bw⟩⟩
   case rest =>
    clear HC8
    try clear c1
    try clear c2
    try clear c2b0
    try clear c2b1
    try clear p2
    try clear c4
    try clear c7
    try clear c14
    try clear c15
    try clear c16
    try clear c16b0
    try clear c16b1
    try clear c16b2
    obtain ⟨kq, x36_7, rfl, HA, HJ7, HO_3, HO_4, HO_5, HB⟩ := hcut
    cases kq with
    | zero => exact absurd HA.out (by simp [laws_FnOrderTo.j0])
    | succ kj7 =>
     have H := HA.out
     clear HA
     simp only [laws_FnOrderTo.j0] at H
     by_cases c17 : x36_7 = true
     ·subst c17
      have H1 : (if (t409.length : Int) = 0 then ((laws_alive.f kj7).bind fun t416 => (some t416)) else (some false)) = some r := by rw [if_pos rfl] at H; exact H
      clear H
      have H := H1
      clear H1
      by_cases c18 : (t409.length : Int) = 0
      ·rw [if_pos c18] at H
       have c18b0 : ((t409.length : Int) == 0) = true := beq_iff_eq.mpr c18
       have c18b1 : ((t409.length : Int) != 0) = false := bne_eq_false_iff_eq.mpr c18
       clear c18
       replace H := Option.bind_eq_some_iff.mp H
       obtain ⟨t416, A190, H⟩ := H
       replace H : (some t416) = some r := H
       have A19 := Aside0.mk A190
       clear A190
       obtain rfl := Option.some.inj H
       go_wp2_with (first | (go_at_call 13; (with_reducible refine (laws_alive.calls kj7  t416 _ A19.out).mono ?_); rintro e w20 ⟨rfl, hb⟩; have n0_ := rB HO_3 hb; have n1_ := rB HO_4 hb; have n2_ := rB HO_5 hb; have n3_ := Aside0.mk (below_step bw hb); clear HO_3 HO_4 HO_5 HB; have HO_3 := n0_; have HO_4 := n1_; have HO_5 := n2_; have HB := n3_; clear n0_ n1_ n2_ n3_; (try clear hb); (try clear hb2); (try clear hk); (try clear hi)))
       go_ret
       exact ⟨by first | rfl | (simp [errW_none, errW_some] <;> rfl) | (simp [*, errW_none, errW_some] <;> rfl), bw⟩
      ·rw [if_neg c18] at H
       have c18b0 : ((t409.length : Int) == 0) = false := beq_eq_false_iff_ne.mpr c18
       have c18b1 : ((t409.length : Int) != 0) = true := bne_iff_ne.mpr c18
       have c18b2 : ¬ (t409 = []) := fun h_ => c18 (by rw [h_]; rfl)
       obtain rfl := Option.some.inj H
       go_wp2
       go_ret
       exact ⟨by first | rfl | (simp [errW_none, errW_some] <;> rfl) | (simp [*, errW_none, errW_some] <;> rfl), bw⟩
     ·replace c17 := Bool.eq_false_iff.mpr c17
      subst c17
      have H1 : (laws_FnOrderTo.l0 kj7 t403 t404 t409 0 2 ([] : List (S42))) = some r := by rw [if_neg (show ¬ (false = true) by decide)] at H; exact H
      clear H
      have H := H1
      clear H1
      have H' := Aside0.mk H
      clear H
      go_wp2_with (first | ((with_reducible refine gate_dst (N := 6) rfl ?_); (try (refine gate_guard (by rfl) ?_; dsimp only)); refine box_event ?hg (N := 6) ?hd (cs := #[.int .i64 0, .slice none 0 0]) (t := 40) ?hr ?_; (case hd => rfl); (case hg => rfl); (case hr => first | (go_simp; done) | (go_simp; rfl)); intro gb417 hg w21 hbox hb; have n0_ := rB HO_3 hb; have n1_ := rB HO_4 hb; have n2_ := rB HO_5 hb; have n3_ := Aside0.mk (below_step bw hb); have n4_ := Aside0.mk (hbox); have n5_ := Aside0.mk ((by rw [hg]; exact (below_size bw) : w.heap.size ≤ gb417)); have n6_ := Aside0.mk ((by rw [hg]; exact (below_size bw) : w.heap.size ≤ gb417)); clear HO_3 HO_4 HO_5 HB; have HO_3 := n0_; have HO_4 := n1_; have HO_5 := n2_; have HB := n3_; have BK417 := n4_; have GW417 := n5_; have GE417 := n6_; clear n0_ n1_ n2_ n3_ n4_ n5_ n6_; clear hb hbox hg; have hcz22_0 : w21.cell? ⟨gb417, 0, none⟩ = some (.int .i64 0) := (blk_cell BK417.out 0).trans rfl; have hcz22_1 : w21.cell? ⟨gb417, 1, none⟩ = some (.slice none 0 0) := (blk_cell BK417.out 1).trans rfl; have hfz22_0 := blk_frozen BK417.out 0; have hfz22_1 := blk_frozen BK417.out 1))
      go_loopg [7] kj7 (fun kq v7 w' => ∃ (x7_2 : Int) (x418001_2 : List (S42)) (u418001 : Value), v7 = .int .i64 x7_2 ∧ Aside0 (laws_FnOrderTo.l0 kq t403 t404 t409 x7_2 2 x418001_2 = some r) ∧ Aside0 (kq ≤ kj7) ∧ Aside0 (Kd.R Kd.bool 4 w' w.heap.size (fun k_ => some k_ ≠ ((.slice Ao11 t404.length co11) : Value).ownBlock) (.slice Ao10 t403.length co10) t403) ∧ Aside0 (Kd.R Kd.bool 4 w' w.heap.size (fun k_ => some k_ ≠ ((.slice Ao10 t403.length co10) : Value).ownBlock) (.slice Ao11 t404.length co11) t404) ∧ Aside0 (Kd.R k87 87 w' w.heap.size (fun _ => True) (.slice Ao14 t409.length co14) t409) ∧ Aside0 (Kd.R k42 42 w' w.heap.size (fun _ => True) u418001 x418001_2) ∧ Aside0 (w'.heap[gb417]? = some (.cells #[.int .i64 2, u418001] 40 (0, 0))) ∧ Aside0 (Below w.heap.size w w'))
      case atStart => exact ⟨(0), (([] : List (S42))), (.slice none 0 0), (by first | rfl | (simp; done) | (simp [*]; done)), H', ⟨Nat.le_refl _⟩, ⟨by (with_reducible repeat (first | apply Kd.R_alloc | apply Kd.R_drewN | apply Kd.R_drew)); exact Kd.R_mono (Kd.R_far (p := ⟨gb417, 1, none⟩) (Kd.R_far (p := ⟨gb417, 0, none⟩) (Kd.R_types HO_3.out BK417.out (by decide)) (fun _ hk => by first | exact hk.2 | grind) (.int .i64 2)) (fun _ hk => by first | exact hk.2 | grind) (.slice none 0 0)) (fun _ hk => by first | exact hk.1 | grind)⟩, ⟨by (with_reducible repeat (first | apply Kd.R_alloc | apply Kd.R_drewN | apply Kd.R_drew)); exact Kd.R_mono (Kd.R_far (p := ⟨gb417, 1, none⟩) (Kd.R_far (p := ⟨gb417, 0, none⟩) (Kd.R_types HO_4.out BK417.out (by decide)) (fun _ hk => by first | exact hk.2 | grind) (.int .i64 2)) (fun _ hk => by first | exact hk.2 | grind) (.slice none 0 0)) (fun _ hk => by first | exact hk.1 | grind)⟩, ⟨by (with_reducible repeat (first | apply Kd.R_alloc | apply Kd.R_drewN | apply Kd.R_drew)); exact Kd.R_mono (Kd.R_far (p := ⟨gb417, 1, none⟩) (Kd.R_far (p := ⟨gb417, 0, none⟩) (Kd.R_types HO_5.out BK417.out (by decide)) (fun _ hk => by first | exact hk.2 | grind) (.int .i64 2)) (fun _ hk => by first | exact hk.2 | grind) (.slice none 0 0)) (fun _ hk => trivial)⟩, ⟨by first | exact Kd.R_nil _ _ _ _ _ | exact Kd.N_nil _ _ _ _ _ | exact Kd.V_nil _ _ _ _ _ | exact Kd.Q_nil _ _ _ _ _ | exact Kd.S_nil _ _ _ _ _⟩, ⟨by (with_reducible repeat (first | refine blk_drewN ?_ _ | refine blk_drew ?_ | refine blk_alloc ?_ _)); refine blk_put (cs := #[.int .i64 2, .slice none 0 0]) ?_ 1 _ rfl; (with_reducible repeat (first | refine blk_drewN ?_ _ | refine blk_drew ?_ | refine blk_alloc ?_ _)); refine blk_put (cs := #[.int .i64 0, .slice none 0 0]) ?_ 0 _ rfl; (with_reducible repeat (first | refine blk_drewN ?_ _ | refine blk_drew ?_ | refine blk_alloc ?_ _)); exact BK417.out⟩, ⟨bw⟩⟩
      case round =>
       clear H'
       try clear c1
       try clear c2
       try clear c2b0
       try clear c2b1
       try clear p2
       try clear c4
       try clear c7
       try clear c14
       try clear c15
       try clear c16
       try clear c16b0
       try clear c16b1
       try clear c16b2
       try clear c17
       try clear c18
       try clear c18b0
       try clear c18b1
       try clear c18b2
       try clear hcz22_0
       try clear hcz22_1
       try clear hfz22_0
       try clear hfz22_1
       try clear p2
       obtain ⟨x7_2, x418001_2, u418001, rfl, HA, HK2, HO_3, HO_4, HO_5, HO_418001, BK417, HB⟩ := hrel
       cases gk with
       | zero => exact absurd HA.out (by simp [laws_FnOrderTo.l0])
       | succ k2 =>
        have H := HA.out
        clear HA
        simp only [laws_FnOrderTo.l0] at H
        by_cases c23 : x7_2 < (t403.length : Int)
        ·rw [if_pos c23] at H
         have c23b0 : decide (x7_2 < (t403.length : Int)) = true := decide_eq_true c23
         clear c23
         by_cases c24 : x418001_2.length < 5864062014805
         ·rw [if_pos c24] at H
          have LMc24 := Aside0.mk c24
          clear c24
          obtain ⟨y418, hy418⟩ : ∃ y_ : List (S42), y_ = (x418001_2 ++ [(⟨0, 1, 1⟩ : S42)]) := ⟨_, rfl⟩
          replace H : (laws_FnOrderTo.l0 k2 t403 t404 t409 (wrap64 (x7_2 + 1)) 2 y418) = some r := by first | (rw [hy418]; with_reducible exact H) | (have H2_ := (Option.bind_some _ _).symm.trans H; rw [hy418]; with_reducible exact H2_) | (have H2_ := (Option.bind_some _ _).symm.trans H; with_reducible exact H2_) | with_reducible exact H | (rw [hy418]; exact H) | exact H
          have Ny418 := Aside0.mk hy418
          clear hy418
          have H' := Aside0.mk H
          clear H
          have hcz25_0 : wr.cell? ⟨gb417, 0, none⟩ = some (.int .i64 2) := (blk_cell BK417.out 0).trans rfl
          have hcz25_1 : wr.cell? ⟨gb417, 1, none⟩ = some (u418001) := (blk_cell BK417.out 1).trans rfl
          have hfz25_0 := blk_frozen BK417.out 0
          have hfz25_1 := blk_frozen BK417.out 1
          go_wp2_with (first | ((with_reducible refine gate_builtin (b := .append) (xs := #[.tmp 51, .tmp 53]) rfl ?_); (try (refine gate_guard (by rfl) ?_; dsimp only)); at_builtin; refine Kd.R_append k42 (w0 := w) w.heap.size rfl (.tmp 51) (.tmp 53) 38 42 (.agg #[(.int .i64 0), (.int .i64 0), (.int .i64 0)]) 24 rfl Tryd.underlying38 info42 rfl (by decide) (by omega) u418001 x418001_2 (⟨0, 1, 1⟩ : S42) [.int .i64 0, .int .i64 1, .int .i64 1] (fun _ => True) (fun _ => False) rfl rfl ?aP (fun _ hk => by first | exact hk.elim | grind) ?aF ?aO ?aB ?aS ?aL ?_; (case aP => exact k42_mkM _ _ _ (⟨0, 1, 1⟩ : S42)); (case aB => exact bw); (case aF => exact (fun _ _ => trivial)); (case aO => exact (rk HO_418001)); (case aS => exact (below_size bw)); (case aL => have := LMc24.out; omega); intro v419 w26 ho hb hg hat; rw [← Ny418.out] at ho; have n0_ := Aside0.mk (Kd.R_over' (rk HO_3) (Kd.R_typed (rk HO_418001)) (by decide) hg); have n1_ := Aside0.mk (Kd.R_over' (rk HO_4) (Kd.R_typed (rk HO_418001)) (by decide) hg); have n2_ := Aside0.mk (Kd.R_over' (rk HO_5) (Kd.R_typed (rk HO_418001)) (by decide) hg); have n3_ := Aside0.mk (blk_grown (g := gb417) (o := .cells #[.int .i64 2, u418001] 40 (0, 0)) (bk BK417) hg (Kd.R_ne HO_418001.out BK417.out (by decide))); have n4_ := Aside0.mk (hb); have n5_ := Aside0.mk (ho); clear HO_3 HO_4 HO_5 BK417 HB HO_418001; have HO_3 := n0_; have HO_4 := n1_; have HO_5 := n2_; have BK417 := n3_; have HB := n4_; have HO420 := n5_; clear n0_ n1_ n2_ n3_ n4_ n5_; clear ho hb hg hat; obtain ⟨Ao27, co27, eo27⟩ := Kd.R_slice HO420.out; subst eo27; have hcz28_0 : w26.cell? ⟨gb417, 0, none⟩ = some (.int .i64 2) := (blk_cell BK417.out 0).trans rfl; have hcz28_1 : w26.cell? ⟨gb417, 1, none⟩ = some (u418001) := (blk_cell BK417.out 1).trans rfl; have hfz28_0 := blk_frozen BK417.out 0; have hfz28_1 := blk_frozen BK417.out 1))
          go_roundg k2
          case measure => have := HJ7.out; have := HK2.out; omega
          case rel => exact ⟨(wrap64 (x7_2 + 1)), (y418), (.slice Ao27 y418.length co27), (by first | rfl | (simp; done) | (simp [*]; done)), H', ⟨by have := HJ7.out; have := HK2.out; omega⟩, ⟨by (with_reducible repeat (first | apply Kd.R_alloc | apply Kd.R_drewN | apply Kd.R_drew)); exact Kd.R_mono (Kd.R_far (p := ⟨gb417, 1, none⟩) (Kd.R_types HO_3.out BK417.out (by decide)) (fun _ hk => by first | exact hk.2 | grind) (.slice Ao27 y418.length co27)) (fun _ hk => by first | exact hk.1 | grind)⟩, ⟨by (with_reducible repeat (first | apply Kd.R_alloc | apply Kd.R_drewN | apply Kd.R_drew)); exact Kd.R_mono (Kd.R_far (p := ⟨gb417, 1, none⟩) (Kd.R_types HO_4.out BK417.out (by decide)) (fun _ hk => by first | exact hk.2 | grind) (.slice Ao27 y418.length co27)) (fun _ hk => by first | exact hk.1 | grind)⟩, ⟨by (with_reducible repeat (first | apply Kd.R_alloc | apply Kd.R_drewN | apply Kd.R_drew)); exact Kd.R_mono (Kd.R_far (p := ⟨gb417, 1, none⟩) (Kd.R_types HO_5.out BK417.out (by decide)) (fun _ hk => by first | exact hk.2 | grind) (.slice Ao27 y418.length co27)) (fun _ hk => trivial)⟩, ⟨by (with_reducible repeat (first | apply Kd.R_alloc | apply Kd.R_drewN | apply Kd.R_drew)); exact Kd.R_mono (Kd.R_far (p := ⟨gb417, 1, none⟩) (Kd.R_types HO420.out BK417.out (by decide)) (fun _ hk => by first | exact hk.2 | grind) (.slice Ao27 y418.length co27)) (fun _ hk => trivial)⟩, ⟨by (with_reducible repeat (first | refine blk_drewN ?_ _ | refine blk_drew ?_ | refine blk_alloc ?_ _)); refine blk_put (cs := #[.int .i64 2, u418001]) ?_ 1 _ rfl; (with_reducible repeat (first | refine blk_drewN ?_ _ | refine blk_drew ?_ | refine blk_alloc ?_ _)); exact BK417.out⟩, ⟨bw⟩⟩
         ·rw [if_neg c24] at H
          exact absurd H (by simp)
        ·rw [if_neg c23] at H
         have c23b0 : decide (x7_2 < (t403.length : Int)) = false := decide_eq_false c23
         clear c23
         replace H := Option.bind_eq_some_iff.mp H
         obtain ⟨⟨t421, t424⟩, A290, H⟩ := H
         replace H : ((laws_sameBools.f k2 t421 t404).bind fun t425 => (if t425 = true then (if t424 = (t409.length : Int) then ((impl_Changes.f k2 t403 t404).bind fun t426 => (some (t424 == (t426.length : Int)))) else (some false)) else (some false))) = some r := H
         have A29 := Aside0.mk A290
         clear A290
         replace H := Option.bind_eq_some_iff.mp H
         obtain ⟨t425, A300, H⟩ := H
         replace H : (if t425 = true then (if t424 = (t409.length : Int) then ((impl_Changes.f k2 t403 t404).bind fun t426 => (some (t424 == (t426.length : Int)))) else (some false)) else (some false)) = some r := H
         have A30 := Aside0.mk A300
         clear A300
         by_cases c31 : t425 = true
         ·subst c31
          have H1 : (if t424 = (t409.length : Int) then ((impl_Changes.f k2 t403 t404).bind fun t426 => (some (t424 == (t426.length : Int)))) else (some false)) = some r := by rw [if_pos rfl] at H; exact H
          clear H
          have H := H1
          clear H1
          by_cases c32 : t424 = (t409.length : Int)
          ·rw [if_pos c32] at H
           have c32b0 : (t424 == (t409.length : Int)) = true := beq_iff_eq.mpr c32
           have c32b1 : (t424 != (t409.length : Int)) = false := bne_eq_false_iff_eq.mpr c32
           clear c32
           replace H := Option.bind_eq_some_iff.mp H
           obtain ⟨t426, A330, H⟩ := H
           replace H : (some (t424 == (t426.length : Int))) = some r := H
           have A33 := Aside0.mk A330
           clear A330
           obtain rfl := Option.some.inj H
           have hcz34_0 : wr.cell? ⟨gb417, 0, none⟩ = some (.int .i64 2) := (blk_cell BK417.out 0).trans rfl
           have hcz34_1 : wr.cell? ⟨gb417, 1, none⟩ = some (u418001) := (blk_cell BK417.out 1).trans rfl
           have hfz34_0 := blk_frozen BK417.out 0
           have hfz34_1 := blk_frozen BK417.out 1
           obtain ⟨Ao35, co35, eo35⟩ := Kd.R_slice HO_418001.out
           subst eo35
           have TK0_ := Aside0.mk trivial; have TK1_ := Aside0.mk trivial; have TK2_ := Aside0.mk trivial
           go_wp2_with (first | (clear TK0_; (with_reducible refine gate_callee (f := 18) rfl ?_); refine goesL_ (some 60) rfl rfl Tryd.func18 (by kernel_rfl) rfl #[.agg #[.int .i64 2, .slice Ao35 x418001_2.length co35], .slice Ao10 t403.length co10, .slice Ao14 t409.length co14] rfl (by (try simp only [List.map_toArray, List.map_cons, List.map_nil]); first | done | rfl | (simp only [List.length_drop, List.length_take]; rfl)) ?_; (with_reducible refine (impl_OrderRun.calls k2 2 _ _ x418001_2 _ _ t403 _ _ t409 t421 t424 _ ?side1 ?side2 ?side3 ?side4 ?side5 ?side6 A29.out).mono ?_); (case side1 => repeat (first | exact (Kd.R_reads' HO_418001.out).2.2 | (with_reducible refine Kd.C_alloc ?_ _) | (with_reducible refine Kd.C_drewN ?_ _) | (with_reducible refine Kd.C_drew ?_))); (case side2 => exact (Kd.R_reads' HO_418001.out).2.1); (case side3 => repeat (first | exact (Kd.R_reads' HO_3.out).2.2 | (with_reducible refine Kd.C_alloc ?_ _) | (with_reducible refine Kd.C_drewN ?_ _) | (with_reducible refine Kd.C_drew ?_))); (case side4 => exact (Kd.R_reads' HO_3.out).2.1); (case side5 => repeat (first | exact (Kd.R_reads' HO_5.out).2.2 | (with_reducible refine Kd.C_alloc ?_ _) | (with_reducible refine Kd.C_drewN ?_ _) | (with_reducible refine Kd.C_drew ?_))); (case side6 => exact (Kd.R_reads' HO_5.out).2.1); rintro e w36 ⟨v422, rfl, ho0, hb⟩; refine ⟨_, rfl, ?_⟩; have n0_ := Aside0.mk (Kd.R_elder' (rk HO_3) (Kd.R_base ho0) hb); have n1_ := Aside0.mk (Kd.R_elder' (rk HO_4) (Kd.R_base ho0) hb); have n2_ := rB HO_5 hb; have n3_ := rB HO_418001 hb; have n4_ := Aside0.mk (Kd.R_lower (Kd.R_new' (Kd.R_new' ho0 (Kd.R_lt (rk HO_3))) (Kd.R_lt (rk HO_4))) (below_size bw)); have n5_ := bkB BK417 hb; have n6_ := Aside0.mk (below_step bw hb); clear HO_3 HO_4 HO_5 HO_418001 BK417 HB; have HO_3 := n0_; have HO_4 := n1_; have HO_5 := n2_; have HO_418001 := n3_; have HO423 := n4_; have BK417 := n5_; have HB := n6_; clear n0_ n1_ n2_ n3_ n4_ n5_ n6_; (try clear hb); (try clear hb2); (try clear hk); (try clear hi); (try clear ho0); obtain ⟨Ao37, co37, eo37⟩ := Kd.R_slice HO423.out; subst eo37) | (clear TK1_; (with_reducible refine gate_callee (f := 19) rfl ?_); refine goesL_ (some 65) rfl rfl Tryd.func19 (by kernel_rfl) rfl #[.slice Ao37 t421.length co37, .slice Ao11 t404.length co11] rfl (by (try simp only [List.map_toArray, List.map_cons, List.map_nil]); first | done | rfl | (simp only [List.length_drop, List.length_take]; rfl)) ?_; (with_reducible refine (laws_sameBools.calls k2 _ _ t421 _ _ t404 true _ ?side1 ?side2 ?side3 ?side4 A30.out).mono ?_); (case side1 => repeat (first | exact (Kd.R_reads' HO423.out).2.2 | (with_reducible refine Kd.C_alloc ?_ _) | (with_reducible refine Kd.C_drewN ?_ _) | (with_reducible refine Kd.C_drew ?_))); (case side2 => exact (Kd.R_reads' HO423.out).2.1); (case side3 => repeat (first | exact (Kd.R_reads' HO_4.out).2.2 | (with_reducible refine Kd.C_alloc ?_ _) | (with_reducible refine Kd.C_drewN ?_ _) | (with_reducible refine Kd.C_drew ?_))); (case side4 => exact (Kd.R_reads' HO_4.out).2.1); rintro e w' ⟨rfl, ⟨nd, rfl⟩⟩; refine ⟨_, rfl, ?_⟩) | (clear TK2_; go_at_call 20; (with_reducible refine (impl_Changes.calls k2 _ _ t403 _ _ t404 t426 _ ?side1 ?side2 ?side3 ?side4 A33.out).mono ?_); (case side1 => repeat (first | exact (Kd.R_reads' HO_3.out).2.2 | (with_reducible refine Kd.C_alloc ?_ _) | (with_reducible refine Kd.C_drewN ?_ _) | (with_reducible refine Kd.C_drew ?_))); (case side2 => exact (Kd.R_reads' HO_3.out).2.1); (case side3 => repeat (first | exact (Kd.R_reads' HO_4.out).2.2 | (with_reducible refine Kd.C_alloc ?_ _) | (with_reducible refine Kd.C_drewN ?_ _) | (with_reducible refine Kd.C_drew ?_))); (case side4 => exact (Kd.R_reads' HO_4.out).2.1); rintro e w38 ⟨v427, rfl, ho0, hb⟩; have n0_ := rB HO_3 hb; have n1_ := rB HO_4 hb; have n2_ := rB HO_5 hb; have n3_ := rB HO_418001 hb; have n4_ := rB HO423 hb; have n5_ := Aside0.mk (Kd.R_lower ho0 (below_size bw)); have n6_ := bkB BK417 hb; have n7_ := Aside0.mk (below_step bw hb); clear HO_3 HO_4 HO_5 HO_418001 HO423 BK417 HB; have HO_3 := n0_; have HO_4 := n1_; have HO_5 := n2_; have HO_418001 := n3_; have HO423 := n4_; have HO428 := n5_; have BK417 := n6_; have HB := n7_; clear n0_ n1_ n2_ n3_ n4_ n5_ n6_ n7_; (try clear hb); (try clear hb2); (try clear hk); (try clear hi); (try clear ho0); obtain ⟨Ao39, co39, eo39⟩ := Kd.R_slice HO428.out; subst eo39))
           go_ret
           exact ⟨by first | rfl | (simp [errW_none, errW_some] <;> rfl) | (simp [*, errW_none, errW_some] <;> rfl), bw⟩
          ·rw [if_neg c32] at H
           have c32b0 : (t424 == (t409.length : Int)) = false := beq_eq_false_iff_ne.mpr c32
           have c32b1 : (t424 != (t409.length : Int)) = true := bne_iff_ne.mpr c32
           obtain rfl := Option.some.inj H
           have hcz40_0 : wr.cell? ⟨gb417, 0, none⟩ = some (.int .i64 2) := (blk_cell BK417.out 0).trans rfl
           have hcz40_1 : wr.cell? ⟨gb417, 1, none⟩ = some (u418001) := (blk_cell BK417.out 1).trans rfl
           have hfz40_0 := blk_frozen BK417.out 0
           have hfz40_1 := blk_frozen BK417.out 1
           obtain ⟨Ao41, co41, eo41⟩ := Kd.R_slice HO_418001.out
           subst eo41
           go_wp2_with (first | ((with_reducible refine gate_callee (f := 18) rfl ?_); refine goesL_ (some 60) rfl rfl Tryd.func18 (by kernel_rfl) rfl #[.agg #[.int .i64 2, .slice Ao41 x418001_2.length co41], .slice Ao10 t403.length co10, .slice Ao14 t409.length co14] rfl (by (try simp only [List.map_toArray, List.map_cons, List.map_nil]); first | done | rfl | (simp only [List.length_drop, List.length_take]; rfl)) ?_; (with_reducible refine (impl_OrderRun.calls k2 2 _ _ x418001_2 _ _ t403 _ _ t409 t421 t424 _ ?side1 ?side2 ?side3 ?side4 ?side5 ?side6 A29.out).mono ?_); (case side1 => repeat (first | exact (Kd.R_reads' HO_418001.out).2.2 | (with_reducible refine Kd.C_alloc ?_ _) | (with_reducible refine Kd.C_drewN ?_ _) | (with_reducible refine Kd.C_drew ?_))); (case side2 => exact (Kd.R_reads' HO_418001.out).2.1); (case side3 => repeat (first | exact (Kd.R_reads' HO_3.out).2.2 | (with_reducible refine Kd.C_alloc ?_ _) | (with_reducible refine Kd.C_drewN ?_ _) | (with_reducible refine Kd.C_drew ?_))); (case side4 => exact (Kd.R_reads' HO_3.out).2.1); (case side5 => repeat (first | exact (Kd.R_reads' HO_5.out).2.2 | (with_reducible refine Kd.C_alloc ?_ _) | (with_reducible refine Kd.C_drewN ?_ _) | (with_reducible refine Kd.C_drew ?_))); (case side6 => exact (Kd.R_reads' HO_5.out).2.1); rintro e w42 ⟨v422, rfl, ho0, hb⟩; refine ⟨_, rfl, ?_⟩; have n0_ := Aside0.mk (Kd.R_elder' (rk HO_3) (Kd.R_base ho0) hb); have n1_ := Aside0.mk (Kd.R_elder' (rk HO_4) (Kd.R_base ho0) hb); have n2_ := rB HO_5 hb; have n3_ := rB HO_418001 hb; have n4_ := Aside0.mk (Kd.R_lower (Kd.R_new' (Kd.R_new' ho0 (Kd.R_lt (rk HO_3))) (Kd.R_lt (rk HO_4))) (below_size bw)); have n5_ := bkB BK417 hb; have n6_ := Aside0.mk (below_step bw hb); clear HO_3 HO_4 HO_5 HO_418001 BK417 HB; have HO_3 := n0_; have HO_4 := n1_; have HO_5 := n2_; have HO_418001 := n3_; have HO423 := n4_; have BK417 := n5_; have HB := n6_; clear n0_ n1_ n2_ n3_ n4_ n5_ n6_; (try clear hb); (try clear hb2); (try clear hk); (try clear hi); (try clear ho0); obtain ⟨Ao43, co43, eo43⟩ := Kd.R_slice HO423.out; subst eo43) | ((with_reducible refine gate_callee (f := 19) rfl ?_); refine goesL_ (some 65) rfl rfl Tryd.func19 (by kernel_rfl) rfl #[.slice Ao43 t421.length co43, .slice Ao11 t404.length co11] rfl (by (try simp only [List.map_toArray, List.map_cons, List.map_nil]); first | done | rfl | (simp only [List.length_drop, List.length_take]; rfl)) ?_; (with_reducible refine (laws_sameBools.calls k2 _ _ t421 _ _ t404 true _ ?side1 ?side2 ?side3 ?side4 A30.out).mono ?_); (case side1 => repeat (first | exact (Kd.R_reads' HO423.out).2.2 | (with_reducible refine Kd.C_alloc ?_ _) | (with_reducible refine Kd.C_drewN ?_ _) | (with_reducible refine Kd.C_drew ?_))); (case side2 => exact (Kd.R_reads' HO423.out).2.1); (case side3 => repeat (first | exact (Kd.R_reads' HO_4.out).2.2 | (with_reducible refine Kd.C_alloc ?_ _) | (with_reducible refine Kd.C_drewN ?_ _) | (with_reducible refine Kd.C_drew ?_))); (case side4 => exact (Kd.R_reads' HO_4.out).2.1); rintro e w' ⟨rfl, ⟨nd, rfl⟩⟩; refine ⟨_, rfl, ?_⟩))
           go_ret
           exact ⟨by first | rfl | (simp [errW_none, errW_some] <;> rfl) | (simp [*, errW_none, errW_some] <;> rfl), bw⟩
         ·replace c31 := Bool.eq_false_iff.mpr c31
          subst c31
          have H1 : (some false) = some r := by rw [if_neg (show ¬ (false = true) by decide)] at H; exact H
          clear H
          have H := H1
          clear H1
          obtain rfl := Option.some.inj H
          have hcz44_0 : wr.cell? ⟨gb417, 0, none⟩ = some (.int .i64 2) := (blk_cell BK417.out 0).trans rfl
          have hcz44_1 : wr.cell? ⟨gb417, 1, none⟩ = some (u418001) := (blk_cell BK417.out 1).trans rfl
          have hfz44_0 := blk_frozen BK417.out 0
          have hfz44_1 := blk_frozen BK417.out 1
          obtain ⟨Ao45, co45, eo45⟩ := Kd.R_slice HO_418001.out
          subst eo45
          go_wp2_with (first | ((with_reducible refine gate_callee (f := 18) rfl ?_); refine goesL_ (some 60) rfl rfl Tryd.func18 (by kernel_rfl) rfl #[.agg #[.int .i64 2, .slice Ao45 x418001_2.length co45], .slice Ao10 t403.length co10, .slice Ao14 t409.length co14] rfl (by (try simp only [List.map_toArray, List.map_cons, List.map_nil]); first | done | rfl | (simp only [List.length_drop, List.length_take]; rfl)) ?_; (with_reducible refine (impl_OrderRun.calls k2 2 _ _ x418001_2 _ _ t403 _ _ t409 t421 t424 _ ?side1 ?side2 ?side3 ?side4 ?side5 ?side6 A29.out).mono ?_); (case side1 => repeat (first | exact (Kd.R_reads' HO_418001.out).2.2 | (with_reducible refine Kd.C_alloc ?_ _) | (with_reducible refine Kd.C_drewN ?_ _) | (with_reducible refine Kd.C_drew ?_))); (case side2 => exact (Kd.R_reads' HO_418001.out).2.1); (case side3 => repeat (first | exact (Kd.R_reads' HO_3.out).2.2 | (with_reducible refine Kd.C_alloc ?_ _) | (with_reducible refine Kd.C_drewN ?_ _) | (with_reducible refine Kd.C_drew ?_))); (case side4 => exact (Kd.R_reads' HO_3.out).2.1); (case side5 => repeat (first | exact (Kd.R_reads' HO_5.out).2.2 | (with_reducible refine Kd.C_alloc ?_ _) | (with_reducible refine Kd.C_drewN ?_ _) | (with_reducible refine Kd.C_drew ?_))); (case side6 => exact (Kd.R_reads' HO_5.out).2.1); rintro e w46 ⟨v422, rfl, ho0, hb⟩; refine ⟨_, rfl, ?_⟩; have n0_ := Aside0.mk (Kd.R_elder' (rk HO_3) (Kd.R_base ho0) hb); have n1_ := Aside0.mk (Kd.R_elder' (rk HO_4) (Kd.R_base ho0) hb); have n2_ := rB HO_5 hb; have n3_ := rB HO_418001 hb; have n4_ := Aside0.mk (Kd.R_lower (Kd.R_new' (Kd.R_new' ho0 (Kd.R_lt (rk HO_3))) (Kd.R_lt (rk HO_4))) (below_size bw)); have n5_ := bkB BK417 hb; have n6_ := Aside0.mk (below_step bw hb); clear HO_3 HO_4 HO_5 HO_418001 BK417 HB; have HO_3 := n0_; have HO_4 := n1_; have HO_5 := n2_; have HO_418001 := n3_; have HO423 := n4_; have BK417 := n5_; have HB := n6_; clear n0_ n1_ n2_ n3_ n4_ n5_ n6_; (try clear hb); (try clear hb2); (try clear hk); (try clear hi); (try clear ho0); obtain ⟨Ao47, co47, eo47⟩ := Kd.R_slice HO423.out; subst eo47) | ((with_reducible refine gate_callee (f := 19) rfl ?_); refine goesL_ (some 65) rfl rfl Tryd.func19 (by kernel_rfl) rfl #[.slice Ao47 t421.length co47, .slice Ao11 t404.length co11] rfl (by (try simp only [List.map_toArray, List.map_cons, List.map_nil]); first | done | rfl | (simp only [List.length_drop, List.length_take]; rfl)) ?_; (with_reducible refine (laws_sameBools.calls k2 _ _ t421 _ _ t404 false _ ?side1 ?side2 ?side3 ?side4 A30.out).mono ?_); (case side1 => repeat (first | exact (Kd.R_reads' HO423.out).2.2 | (with_reducible refine Kd.C_alloc ?_ _) | (with_reducible refine Kd.C_drewN ?_ _) | (with_reducible refine Kd.C_drew ?_))); (case side2 => exact (Kd.R_reads' HO423.out).2.1); (case side3 => repeat (first | exact (Kd.R_reads' HO_4.out).2.2 | (with_reducible refine Kd.C_alloc ?_ _) | (with_reducible refine Kd.C_drewN ?_ _) | (with_reducible refine Kd.C_drew ?_))); (case side4 => exact (Kd.R_reads' HO_4.out).2.1); rintro e w' ⟨rfl, ⟨nd, rfl⟩⟩; refine ⟨_, rfl, ?_⟩))
          go_ret
          exact ⟨by first | rfl | (simp [errW_none, errW_some] <;> rfl) | (simp [*, errW_none, errW_some] <;> rfl), bw⟩
  ·replace c7 := Bool.eq_false_iff.mpr c7
   subst c7
   have H1 : (some false) = some r := by rw [if_neg (show ¬ (false = true) by decide)] at H; exact H
   clear H
   have H := H1
   clear H1
   obtain rfl := Option.some.inj H
   go_enter Tryd.func4, Tryd.ntmps4
   have TK0_ := Aside0.mk trivial; have TK1_ := Aside0.mk trivial; have TK2_ := Aside0.mk trivial; have TK3_ := Aside0.mk trivial
   go_wp2_with (first | (clear TK0_; (with_reducible refine gate_callee (f := 14) rfl ?_); refine goesL_ (some 15) rfl rfl Tryd.func14 (by kernel_rfl) rfl #[.slice A0 l0.length c0] rfl (by (try simp only [List.map_toArray, List.map_cons, List.map_nil]); first | done | rfl | (simp only [List.length_drop, List.length_take]; rfl)) ?_; (with_reducible refine (spec_DrawOrderTo.calls k _ _ l0 t403 t404 _ ?side1 ?side2 A3.out).mono ?_); (case side1 => repeat (first | exact HR0.out | (with_reducible refine Kd.C_alloc ?_ _) | (with_reducible refine Kd.C_drewN ?_ _) | (with_reducible refine Kd.C_drew ?_))); (case side2 => exact HC0.out); rintro e w48 ⟨v405, v407, rfl, ho0, ho1, hb⟩; refine ⟨_, rfl, ?_⟩; have n0_ := Aside0.mk (Kd.R_lower ho0 (below_size bw)); have n1_ := Aside0.mk (Kd.R_lower ho1 (below_size bw)); have n2_ := Aside0.mk (below_step bw hb); clear HB; have HO406 := n0_; have HO408 := n1_; have HB := n2_; clear n0_ n1_ n2_; (try clear hb); (try clear hb2); (try clear hk); (try clear hi); (try clear ho0); (try clear ho1); obtain ⟨Ao49, co49, eo49⟩ := Kd.R_slice HO406.out; subst eo49; obtain ⟨Ao50, co50, eo50⟩ := Kd.R_slice HO408.out; subst eo50) | (clear TK1_; (with_reducible refine gate_callee (f := 15) rfl ?_); refine goesL_ (some 20) rfl rfl Tryd.func15 (by kernel_rfl) rfl #[.slice Ao49 t403.length co49, .slice Ao50 t404.length co50] rfl (by (try simp only [List.map_toArray, List.map_cons, List.map_nil]); first | done | rfl | (simp only [List.length_drop, List.length_take]; rfl)) ?_; (with_reducible refine (impl_OrderTo.calls k _ _ t403 _ _ t404 t409 _ ?side1 ?side2 ?side3 ?side4 A4.out).mono ?_); (case side1 => repeat (first | exact (Kd.R_reads' HO406.out).2.2 | (with_reducible refine Kd.C_alloc ?_ _) | (with_reducible refine Kd.C_drewN ?_ _) | (with_reducible refine Kd.C_drew ?_))); (case side2 => exact (Kd.R_reads' HO406.out).2.1); (case side3 => repeat (first | exact (Kd.R_reads' HO408.out).2.2 | (with_reducible refine Kd.C_alloc ?_ _) | (with_reducible refine Kd.C_drewN ?_ _) | (with_reducible refine Kd.C_drew ?_))); (case side4 => exact (Kd.R_reads' HO408.out).2.1); rintro e w51 ⟨v410, rfl, ho0, hb⟩; refine ⟨_, rfl, ?_⟩; have n0_ := rB HO406 hb; have n1_ := rB HO408 hb; have n2_ := Aside0.mk (Kd.R_lower ho0 (below_size bw)); have n3_ := Aside0.mk (below_step bw hb); clear HO406 HO408 HB; have HO406 := n0_; have HO408 := n1_; have HO411 := n2_; have HB := n3_; clear n0_ n1_ n2_ n3_; (try clear hb); (try clear hb2); (try clear hk); (try clear hi); (try clear ho0)) | (clear TK2_; (with_reducible refine gate_callee (f := 17) rfl ?_); refine goesL_ (some 24) rfl rfl Tryd.func17 (by kernel_rfl) rfl #[.slice Ao49 t403.length co49, .slice Ao50 t404.length co50] rfl (by (try simp only [List.map_toArray, List.map_cons, List.map_nil]); first | done | rfl | (simp only [List.length_drop, List.length_take]; rfl)) ?_; (with_reducible refine (spec_OrderTo.calls k _ _ t403 _ _ t404 t412 _ ?side1 ?side2 ?side3 ?side4 A5.out).mono ?_); (case side1 => repeat (first | exact (Kd.R_reads' HO406.out).2.2 | (with_reducible refine Kd.C_alloc ?_ _) | (with_reducible refine Kd.C_drewN ?_ _) | (with_reducible refine Kd.C_drew ?_))); (case side2 => exact (Kd.R_reads' HO406.out).2.1); (case side3 => repeat (first | exact (Kd.R_reads' HO408.out).2.2 | (with_reducible refine Kd.C_alloc ?_ _) | (with_reducible refine Kd.C_drewN ?_ _) | (with_reducible refine Kd.C_drew ?_))); (case side4 => exact (Kd.R_reads' HO408.out).2.1); rintro e w52 ⟨v413, rfl, ho0, hb⟩; refine ⟨_, rfl, ?_⟩; have n0_ := rB HO406 hb; have n1_ := rB HO408 hb; have n2_ := Aside0.mk (Kd.R_elder' (rk HO411) (Kd.R_base ho0) hb); have n3_ := Aside0.mk (Kd.R_lower (Kd.R_new' ho0 (Kd.R_lt (rk HO411))) (below_size bw)); have n4_ := Aside0.mk (below_step bw hb); clear HO406 HO408 HO411 HB; have HO406 := n0_; have HO408 := n1_; have HO411 := n2_; have HO414 := n3_; have HB := n4_; clear n0_ n1_ n2_ n3_ n4_; (try clear hb); (try clear hb2); (try clear hk); (try clear hi); (try clear ho0); obtain ⟨Ao53, co53, eo53⟩ := Kd.R_slice HO411.out; subst eo53; obtain ⟨Ao54, co54, eo54⟩ := Kd.R_slice HO414.out; subst eo54) | (clear TK3_; (with_reducible refine gate_callee (f := 16) rfl ?_); refine goesL_ (some 25) rfl rfl Tryd.func16 (by kernel_rfl) rfl #[.slice Ao53 t409.length co53, .slice Ao54 t412.length co54] rfl (by (try simp only [List.map_toArray, List.map_cons, List.map_nil]); first | done | rfl | (simp only [List.length_drop, List.length_take]; rfl)) ?_; (with_reducible refine (laws_sameSteps.calls k _ _ t409 _ _ t412 false _ ?side1 ?side2 ?side3 ?side4 A6.out).mono ?_); (case side1 => repeat (first | exact (Kd.R_reads' HO411.out).2.2 | (with_reducible refine Kd.C_alloc ?_ _) | (with_reducible refine Kd.C_drewN ?_ _) | (with_reducible refine Kd.C_drew ?_))); (case side2 => exact (Kd.R_reads' HO411.out).2.1); (case side3 => repeat (first | exact (Kd.R_reads' HO414.out).2.2 | (with_reducible refine Kd.C_alloc ?_ _) | (with_reducible refine Kd.C_drewN ?_ _) | (with_reducible refine Kd.C_drew ?_))); (case side4 => exact (Kd.R_reads' HO414.out).2.1); rintro e w' ⟨rfl, ⟨nd, rfl⟩⟩; refine ⟨_, rfl, ?_⟩))
   go_ret
   exact ⟨by first | rfl | (simp [errW_none, errW_some] <;> rfl) | (simp [*, errW_none, errW_some] <;> rfl), bw⟩

end Go.Proofs.YtihmidnjiaomhaaDoor.G
