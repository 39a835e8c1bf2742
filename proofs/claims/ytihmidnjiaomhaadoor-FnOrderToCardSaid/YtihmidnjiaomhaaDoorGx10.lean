-- Printed by wip/gen.py of this session's repo, over the kit's print.py. Not trusted: Lean checks it.
import Derived.Test.YtihmidnjiaomhaaDoorSq
import Derived.Test.YtihmidnjiaomhaaDoorGx0
import Derived.Test.YtihmidnjiaomhaaDoorGx7
namespace Go.Proofs.YtihmidnjiaomhaaDoor.G
open Go.RowKit Go.Proofs.YtihmidnjiaomhaaDoorW.PrintWords Go.Proofs.YtihmidnjiaomhaaDoorW.PrintLast Go.Proofs.YtihmidnjiaomhaaDoorW.PrintMore Go.Proofs.YtihmidnjiaomhaaDoor.Sq
attribute [local go_sem] max2_int min2_int max_two min_two max_three min_three max_four min_four   -- for this text's walks alone
set_option linter.unusedVariables false
set_option linter.unusedSimpArgs false

attribute [local go_sem high] eqA87
/-! ### spec_Changes: function 53 -/
mutual
def spec_Changes.l0 : Nat → List Bool → List Bool → List Int → Int → Option (List Int)
 | 0, _, _, _, _ => none
 | k + 1, x0, x1, x5, x6 => if x6 < (x0.length : Int) then (spec_Changes.j1 k x0 x1 x5 x6 ((x0.length : Int) == (x1.length : Int))) else (spec_Changes.j1 k x0 x1 x5 x6 false)
def spec_Changes.j1 : Nat → List Bool → List Bool → List Int → Int → Bool → Option (List Int)
 | 0, _, _, _, _, _ => none
 | k + 1, x0, x1, x5, x6, x18 => if x18 = true then (if 0 ≤ x6 then (if x6 < (x0.length : Int) then (if x6 < (x1.length : Int) then (if ((rdOf false x0 x6) != (rdOf false x1 x6)) = true then (if x5.length < 17592186044416 then (spec_Changes.l0 k x0 x1 (x5 ++ [x6]) (wrap64 (x6 + 1))) else (none)) else (spec_Changes.l0 k x0 x1 x5 (wrap64 (x6 + 1)))) else (none)) else (none)) else (none)) else (some x5)
end
def spec_Changes.f (k : Nat) (l0 : List Bool) (l1 : List Bool) : Option (List Int) := spec_Changes.l0 k l0 l1 (([] : List Int)) 0
theorem spec_Changes.mono_l : ∀ k, (∀ y0 y1 y2 y3, LeO (spec_Changes.l0 k y0 y1 y2 y3) (spec_Changes.l0 (k + 1) y0 y1 y2 y3)) ∧ (∀ y0 y1 y2 y3 y4, LeO (spec_Changes.j1 k y0 y1 y2 y3 y4) (spec_Changes.j1 (k + 1) y0 y1 y2 y3 y4))
 | 0 => ⟨fun _ _ _ _ r h => by simp [spec_Changes.l0] at h, fun _ _ _ _ _ r h => by simp [spec_Changes.j1] at h⟩
 | k + 1 => by
  obtain ⟨ih0, ih1⟩ := spec_Changes.mono_l k
  refine ⟨?_, ?_⟩
  ·intro y0 y1 y2 y3
   unfold spec_Changes.l0
   repeat' first
   | (with_reducible exact ih0 _ _ _ _)
   | (with_reducible exact ih1 _ _ _ _ _)
   | (with_reducible exact LeO.refl _)
   | (with_reducible exact LeO.none _)
   | (with_reducible refine LeO.ite ?_ ?_)
   | (with_reducible refine LeO.bind ?_ (fun _ => ?_))
   | exact ih0 _ _ _ _
   | exact ih1 _ _ _ _ _
   | exact LeO.none _
   | refine LeO.ite ?_ ?_
   | refine LeO.bind ?_ (fun _ => ?_)
  ·intro y0 y1 y2 y3 y4
   unfold spec_Changes.j1
   repeat' first
   | (with_reducible exact ih0 _ _ _ _)
   | (with_reducible exact ih1 _ _ _ _ _)
   | (with_reducible exact LeO.refl _)
   | (with_reducible exact LeO.none _)
   | (with_reducible refine LeO.ite ?_ ?_)
   | (with_reducible refine LeO.bind ?_ (fun _ => ?_))
   | exact ih0 _ _ _ _
   | exact ih1 _ _ _ _ _
   | exact LeO.none _
   | refine LeO.ite ?_ ?_
   | refine LeO.bind ?_ (fun _ => ?_)
theorem spec_Changes.mono : ∀ a0 a1 k, LeO (spec_Changes.f k a0 a1) (spec_Changes.f (k + 1) a0 a1) := by
 intro a0 a1 k
 obtain ⟨ih0, ih1⟩ := spec_Changes.mono_l k
 unfold spec_Changes.f
 repeat' first
   | (with_reducible exact ih0 _ _ _ _)
   | (with_reducible exact ih1 _ _ _ _ _)
   | (with_reducible exact LeO.refl _)
   | (with_reducible exact LeO.none _)
   | (with_reducible refine LeO.ite ?_ ?_)
   | (with_reducible refine LeO.bind ?_ (fun _ => ?_))
   | exact ih0 _ _ _ _
   | exact ih1 _ _ _ _ _
   | exact LeO.none _
   | refine LeO.ite ?_ ?_
   | refine LeO.bind ?_ (fun _ => ?_)
set_option maxHeartbeats 8000000 in
set_option maxRecDepth 100000 in
theorem spec_Changes.calls (k : Nat) (A0 : Option Addr) (c0 : Nat) (l0 : List Bool) (A1 : Option Addr) (c1 : Nat) (l1 : List Bool) (r : List Int) (w : World) (hr0 : Kd.C Kd.bool w A0 l0.length l0) (hc0 : l0.length ≤ c0) (hr1 : Kd.C Kd.bool w A1 l1.length l1) (hc1 : l1.length ≤ c1) (h : spec_Changes.f k l0 l1 = some r) :
  Calls Tryd.prog 53 #[.slice A0 l0.length c0, .slice A1 l1.length c1] w fun e w' => ∃ v0_ : Value, e = .returned (v0_) ∧ Kd.R (Kd.int .i64) 3 w' w.heap.size (fun _ => True) v0_ r ∧ Below w.heap.size w w' := by
 have HR0 := Aside0.mk hr0
 have HC0 := Aside0.mk hc0
 clear hr0 hc0
 have HR1 := Aside0.mk hr1
 have HC1 := Aside0.mk hc1
 clear hr1 hc1
 have HB := Aside0.mk (Below.refl w.heap.size w)
 have H : (spec_Changes.l0 k l0 l1 (([] : List Int)) 0) = some r := h
 clear h
 obtain ⟨y355, hy355⟩ : ∃ y_ : List Int, y_ = (([] : List Int)) := ⟨_, rfl⟩
 replace H : (spec_Changes.l0 k l0 l1 y355 0) = some r := by first | (rw [hy355]; with_reducible exact H) | (have H2_ := (Option.bind_some _ _).symm.trans H; rw [hy355]; with_reducible exact H2_) | (have H2_ := (Option.bind_some _ _).symm.trans H; with_reducible exact H2_) | with_reducible exact H | (rw [hy355]; exact H) | exact H
 have Ny355 := Aside0.mk hy355
 clear hy355
 have H' := Aside0.mk H
 clear H
 go_enter Tryd.func53, Tryd.ntmps53
 go_wp2_with (first | ((with_reducible refine gate_dst (N := 7) rfl ?_); (try (refine gate_guard (by rfl) ?_; dsimp only)); refine Kd.R_lit (Kd.int .i64) _ 3 ?hg (N := 7) ?hd (xs := ([] : List Int)) (inner := []) (ok := fun _ => True) (okp := fun _ => True) ?hr ?hp (fun _ hk => by first | exact hk | grind) trivial (Below.refl _ _) (Nat.le_refl _) (by simp) ?_; (case hd => rfl); (case hg => rfl); (case hr => first | (go_simp; done) | (go_simp; rfl)); (case hp => exact (Reps.none _ _)); intro v356 w3 ho4 hb hg_ hnew_; clear hg_ hnew_; (first | rw [← Ny355.out] at ho4 | (simp only [Int.reduceToNat] at ho4; rw [← Ny355.out] at ho4)); have n0_ := Aside0.mk (Kd.R_lower ho4 (below_size bw)); have n1_ := Aside0.mk (below_step bw hb); clear HB; have HO357 := n0_; have HB := n1_; clear n0_ n1_; clear hb ho4))
 repeat (go_quiet (first | ((with_reducible refine gate_dst (N := 7) rfl ?_); (try (refine gate_guard (by rfl) ?_; dsimp only)); refine Kd.R_lit (Kd.int .i64) _ 3 ?hg (N := 7) ?hd (xs := ([] : List Int)) (inner := []) (ok := fun _ => True) (okp := fun _ => True) ?hr ?hp (fun _ hk => by first | exact hk | grind) trivial (Below.refl _ _) (Nat.le_refl _) (by simp) ?_; (case hd => rfl); (case hg => rfl); (case hr => first | (go_simp; done) | (go_simp; rfl)); (case hp => exact (Reps.none _ _)); intro v356 w3 ho4 hb hg_ hnew_; clear hg_ hnew_; (first | rw [← Ny355.out] at ho4 | (simp only [Int.reduceToNat] at ho4; rw [← Ny355.out] at ho4)); have n0_ := Aside0.mk (Kd.R_lower ho4 (below_size bw)); have n1_ := Aside0.mk (below_step bw hb); clear HB; have HO357 := n0_; have HB := n1_; clear n0_ n1_; clear hb ho4)); try go_wp2_with (first | ((with_reducible refine gate_dst (N := 7) rfl ?_); (try (refine gate_guard (by rfl) ?_; dsimp only)); refine Kd.R_lit (Kd.int .i64) _ 3 ?hg (N := 7) ?hd (xs := ([] : List Int)) (inner := []) (ok := fun _ => True) (okp := fun _ => True) ?hr ?hp (fun _ hk => by first | exact hk | grind) trivial (Below.refl _ _) (Nat.le_refl _) (by simp) ?_; (case hd => rfl); (case hg => rfl); (case hr => first | (go_simp; done) | (go_simp; rfl)); (case hp => exact (Reps.none _ _)); intro v356 w3 ho4 hb hg_ hnew_; clear hg_ hnew_; (first | rw [← Ny355.out] at ho4 | (simp only [Int.reduceToNat] at ho4; rw [← Ny355.out] at ho4)); have n0_ := Aside0.mk (Kd.R_lower ho4 (below_size bw)); have n1_ := Aside0.mk (below_step bw hb); clear HB; have HO357 := n0_; have HB := n1_; clear n0_ n1_; clear hb ho4)))
 go_loopg [5, 6] k (fun kq v5 v6 w' => ∃ (x5_1 : List Int) (x6_1 : Int), v6 = .int .i64 x6_1 ∧ Aside0 (spec_Changes.l0 kq l0 l1 x5_1 x6_1 = some r) ∧ Aside0 (kq ≤ k) ∧ Aside0 (Kd.R (Kd.int .i64) 3 w' w.heap.size (fun _ => True) v5 x5_1) ∧ Aside0 (Below w.heap.size w w'))
 case atStart => exact ⟨(y355), (0), (by first | rfl | (simp; done) | (simp [*]; done)), H', ⟨Nat.le_refl _⟩, ⟨rk HO357⟩, ⟨bw⟩⟩
 case round =>
  clear H'
  try clear c1
  try clear p2
  obtain ⟨x5_1, x6_1, rfl, HA, HK1, HO_5, HB⟩ := hrel
  cases gk with
  | zero => exact absurd HA.out (by simp [spec_Changes.l0])
  | succ k1 =>
   have H := HA.out
   clear HA
   simp only [spec_Changes.l0] at H
   have HC5 := Aside0.mk H
   clear H
   go_upto_region 3 with (fail)
   repeat (go_quiet (fail); go_upto_region 3 with (fail))
   go_cut [18] (fun v18 wc => ∃ (kq : Nat) (x18_4 : Bool), v18 = .bool x18_4 ∧ Aside0 (spec_Changes.j1 kq l0 l1 x5_1 x6_1 x18_4 = some r) ∧ Aside0 (kq ≤ k1) ∧ Aside0 (Kd.R (Kd.int .i64) 3 wc w.heap.size (fun _ => True) u5 x5_1) ∧ Aside0 (Below w.heap.size w wc))
   case first =>
    have H := HC5.out
    clear HC5
    by_cases c6 : x6_1 < (l0.length : Int)
    ·rw [if_pos c6] at H
     have c6b0 : decide (x6_1 < (l0.length : Int)) = true := decide_eq_true c6
     clear c6
     (first | rw [c6b0] | (simp only [i64_w, i32_w]; rw [c6b0]) | skip)
     have H' := Aside0.mk H
     clear H
     go_wp2
     repeat (go_quiet (fail); try go_wp2)
     go_meet
     case rel => exact ⟨_, (((l0.length : Int) == (l1.length : Int))), (by first | rfl | (simp; done) | (simp [*]; done)), H', ⟨by have := HK1.out; first | omega | exact Nat.le_refl _⟩, ⟨rk HO_5⟩, ⟨bw⟩⟩
    ·rw [if_neg c6] at H
     have c6b0 : decide (x6_1 < (l0.length : Int)) = false := decide_eq_false c6
     clear c6
     (first | rw [c6b0] | (simp only [i64_w, i32_w]; rw [c6b0]) | skip)
     have H' := Aside0.mk H
     clear H
     go_wp2
     repeat (go_quiet (fail); try go_wp2)
     go_meet
     case rel => exact ⟨_, (false), (by first | rfl | (simp; done) | (simp [*]; done)), H', ⟨by have := HK1.out; first | omega | exact Nat.le_refl _⟩, ⟨rk HO_5⟩, ⟨bw⟩⟩
   case rest =>
    clear HC5
    try clear c1
    try clear p2
    try clear c5
    try clear c6
    try clear c6b0
    try clear p2
    obtain ⟨kq, x18_4, rfl, HA, HJ4, HO_5, HB⟩ := hcut
    cases kq with
    | zero => exact absurd HA.out (by simp [spec_Changes.j1])
    | succ kj4 =>
     have H := HA.out
     clear HA
     simp only [spec_Changes.j1] at H
     by_cases c7 : x18_4 = true
     ·subst c7
      have H1 : (if 0 ≤ x6_1 then (if x6_1 < (l0.length : Int) then (if x6_1 < (l1.length : Int) then (if ((rdOf false l0 x6_1) != (rdOf false l1 x6_1)) = true then (if x5_1.length < 17592186044416 then (spec_Changes.l0 kj4 l0 l1 (x5_1 ++ [x6_1]) (wrap64 (x6_1 + 1))) else (none)) else (spec_Changes.l0 kj4 l0 l1 x5_1 (wrap64 (x6_1 + 1)))) else (none)) else (none)) else (none)) = some r := by rw [if_pos rfl] at H; exact H
      clear H
      have H := H1
      clear H1
      by_cases c8 : 0 ≤ x6_1
      ·rw [if_pos c8] at H
       have c8b0 : decide (0 ≤ x6_1) = true := decide_eq_true c8
       clear c8
       by_cases c9 : x6_1 < (l0.length : Int)
       ·rw [if_pos c9] at H
        have c9b0 : decide (x6_1 < (l0.length : Int)) = true := decide_eq_true c9
        clear c9
        by_cases c10 : x6_1 < (l1.length : Int)
        ·rw [if_pos c10] at H
         have c10b0 : decide (x6_1 < (l1.length : Int)) = true := decide_eq_true c10
         clear c10
         by_cases c11 : ((rdOf false l0 x6_1) != (rdOf false l1 x6_1)) = true
         ·rw [if_pos c11] at H
          have c11b0 : ((rdOf false l0 x6_1) != (rdOf false l1 x6_1)) = true := c11
          (try (have c11b1 : decide ((rdOf false l0 x6_1) = (rdOf false l1 x6_1)) = false := by simpa using c11))
          (try (have c11b2 : ((rdOf false l0 x6_1) == (rdOf false l1 x6_1)) = false := by simpa using c11))
          (try (have c11b3 : ¬ ((rdOf false l0 x6_1) = (rdOf false l1 x6_1)) := by simpa using c11))
          clear c11
          by_cases c12 : x5_1.length < 17592186044416
          ·rw [if_pos c12] at H
           have LMc12 := Aside0.mk c12
           clear c12
           obtain ⟨y360, hy360⟩ : ∃ y_ : List Int, y_ = (x5_1 ++ [x6_1]) := ⟨_, rfl⟩
           replace H : (spec_Changes.l0 kj4 l0 l1 y360 (wrap64 (x6_1 + 1))) = some r := by first | (rw [hy360]; with_reducible exact H) | (have H2_ := (Option.bind_some _ _).symm.trans H; rw [hy360]; with_reducible exact H2_) | (have H2_ := (Option.bind_some _ _).symm.trans H; with_reducible exact H2_) | with_reducible exact H | (rw [hy360]; exact H) | exact H
           have Ny360 := Aside0.mk hy360
           clear hy360
           have H' := Aside0.mk H
           clear H
           have p358 : 0 ≤ (x6_1 : Int) := of_decide_eq_true (by first | (with_reducible assumption) | assumption)
           have q358 : x6_1 < (l0.length : Int) := of_decide_eq_true (by first | (with_reducible assumption) | assumption)
           obtain ⟨ad358, e358, hx358_0⟩ := Kd.at_bool HR0.out x6_1 p358 q358
           cases e358
           replace hx358_0 := (HB.out.cell (World.block_lt_of_cell? w _ hx358_0)).trans hx358_0
           replace p358 := eq_true p358
           replace q358 := eq_true q358
           have p359 : 0 ≤ (x6_1 : Int) := of_decide_eq_true (by first | (with_reducible assumption) | assumption)
           have q359 : x6_1 < (l1.length : Int) := of_decide_eq_true (by first | (with_reducible assumption) | assumption)
           obtain ⟨ad359, e359, hx359_0⟩ := Kd.at_bool HR1.out x6_1 p359 q359
           cases e359
           replace hx359_0 := (HB.out.cell (World.block_lt_of_cell? w _ hx359_0)).trans hx359_0
           replace p359 := eq_true p359
           replace q359 := eq_true q359
           go_wp2_with (first | ((with_reducible refine gate_builtin (b := .append) (xs := #[.tmp 30, .tmp 32]) rfl ?_); (try (refine gate_guard (by rfl) ?_; dsimp only)); at_builtin; refine Kd.R_append (Kd.int .i64) (w0 := w) w.heap.size rfl (.tmp 30) (.tmp 32) 46 3 (.int .i64 0) 8 rfl Tryd.underlying46 info3 rfl (by decide) (by omega) u5 x5_1 x6_1 [.int .i64 x6_1] (fun _ => True) (fun _ => False) rfl rfl ?aP (fun _ hk => by first | exact hk.elim | grind) ?aF ?aO ?aB ?aS ?aL ?_; (case aP => exact rfl); (case aB => exact bw); (case aF => exact (fun _ _ => trivial)); (case aO => exact (rk HO_5)); (case aS => exact (below_size bw)); (case aL => have := LMc12.out; omega); intro v361 w13 ho hb hg hat; rw [← Ny360.out] at ho; have n0_ := Aside0.mk (hb); have n1_ := Aside0.mk (ho); clear HB HO_5; have HB := n0_; have HO362 := n1_; clear n0_ n1_; clear ho hb hg hat))
           repeat (go_quiet (first | ((with_reducible refine gate_builtin (b := .append) (xs := #[.tmp 30, .tmp 32]) rfl ?_); (try (refine gate_guard (by rfl) ?_; dsimp only)); at_builtin; refine Kd.R_append (Kd.int .i64) (w0 := w) w.heap.size rfl (.tmp 30) (.tmp 32) 46 3 (.int .i64 0) 8 rfl Tryd.underlying46 info3 rfl (by decide) (by omega) u5 x5_1 x6_1 [.int .i64 x6_1] (fun _ => True) (fun _ => False) rfl rfl ?aP (fun _ hk => by first | exact hk.elim | grind) ?aF ?aO ?aB ?aS ?aL ?_; (case aP => exact rfl); (case aB => exact bw); (case aF => exact (fun _ _ => trivial)); (case aO => exact (rk HO_5)); (case aS => exact (below_size bw)); (case aL => have := LMc12.out; omega); intro v361 w13 ho hb hg hat; rw [← Ny360.out] at ho; have n0_ := Aside0.mk (hb); have n1_ := Aside0.mk (ho); clear HB HO_5; have HB := n0_; have HO362 := n1_; clear n0_ n1_; clear ho hb hg hat)); try go_wp2_with (first | ((with_reducible refine gate_builtin (b := .append) (xs := #[.tmp 30, .tmp 32]) rfl ?_); (try (refine gate_guard (by rfl) ?_; dsimp only)); at_builtin; refine Kd.R_append (Kd.int .i64) (w0 := w) w.heap.size rfl (.tmp 30) (.tmp 32) 46 3 (.int .i64 0) 8 rfl Tryd.underlying46 info3 rfl (by decide) (by omega) u5 x5_1 x6_1 [.int .i64 x6_1] (fun _ => True) (fun _ => False) rfl rfl ?aP (fun _ hk => by first | exact hk.elim | grind) ?aF ?aO ?aB ?aS ?aL ?_; (case aP => exact rfl); (case aB => exact bw); (case aF => exact (fun _ _ => trivial)); (case aO => exact (rk HO_5)); (case aS => exact (below_size bw)); (case aL => have := LMc12.out; omega); intro v361 w13 ho hb hg hat; rw [← Ny360.out] at ho; have n0_ := Aside0.mk (hb); have n1_ := Aside0.mk (ho); clear HB HO_5; have HB := n0_; have HO362 := n1_; clear n0_ n1_; clear ho hb hg hat)))
           go_roundg kj4
           case measure => have := HK1.out; have := HJ4.out; omega
           case rel => exact ⟨(y360), (wrap64 (x6_1 + 1)), (by first | rfl | (simp; done) | (simp [*]; done)), H', ⟨by have := HK1.out; have := HJ4.out; omega⟩, ⟨rk HO362⟩, ⟨bw⟩⟩
          ·rw [if_neg c12] at H
           exact absurd H (by simp)
         ·rw [if_neg c11] at H
          have c11b0 : ((rdOf false l0 x6_1) != (rdOf false l1 x6_1)) = false := by simpa using c11
          (try (have c11b1 : decide ((rdOf false l0 x6_1) = (rdOf false l1 x6_1)) = true := by simpa using c11))
          (try (have c11b2 : ((rdOf false l0 x6_1) == (rdOf false l1 x6_1)) = true := by simpa using c11))
          clear c11
          have H' := Aside0.mk H
          clear H
          have p358 : 0 ≤ (x6_1 : Int) := of_decide_eq_true (by first | (with_reducible assumption) | assumption)
          have q358 : x6_1 < (l0.length : Int) := of_decide_eq_true (by first | (with_reducible assumption) | assumption)
          obtain ⟨ad358, e358, hx358_0⟩ := Kd.at_bool HR0.out x6_1 p358 q358
          cases e358
          replace hx358_0 := (HB.out.cell (World.block_lt_of_cell? w _ hx358_0)).trans hx358_0
          replace p358 := eq_true p358
          replace q358 := eq_true q358
          have p359 : 0 ≤ (x6_1 : Int) := of_decide_eq_true (by first | (with_reducible assumption) | assumption)
          have q359 : x6_1 < (l1.length : Int) := of_decide_eq_true (by first | (with_reducible assumption) | assumption)
          obtain ⟨ad359, e359, hx359_0⟩ := Kd.at_bool HR1.out x6_1 p359 q359
          cases e359
          replace hx359_0 := (HB.out.cell (World.block_lt_of_cell? w _ hx359_0)).trans hx359_0
          replace p359 := eq_true p359
          replace q359 := eq_true q359
          go_wp2
          repeat (go_quiet (fail); try go_wp2)
          go_roundg kj4
          case measure => have := HK1.out; have := HJ4.out; omega
          case rel => exact ⟨(x5_1), (wrap64 (x6_1 + 1)), (by first | rfl | (simp; done) | (simp [*]; done)), H', ⟨by have := HK1.out; have := HJ4.out; omega⟩, ⟨rk HO_5⟩, ⟨bw⟩⟩
        ·rw [if_neg c10] at H
         exact absurd H (by simp)
       ·rw [if_neg c9] at H
        exact absurd H (by simp)
      ·rw [if_neg c8] at H
       exact absurd H (by simp)
     ·replace c7 := Bool.eq_false_iff.mpr c7
      subst c7
      have H1 : (some x5_1) = some r := by rw [if_neg (show ¬ (false = true) by decide)] at H; exact H
      clear H
      have H := H1
      clear H1
      obtain rfl := Option.some.inj H
      go_wp2
      repeat (go_quiet (fail); try go_wp2)
      go_ret
      exact ⟨_, by first | rfl | (simp [errW_none, errW_some] <;> rfl) | (simp [*, errW_none, errW_some] <;> rfl), rk HO_5, bw⟩

/-! ### spec_OrderTo: function 17 -/
mutual
def spec_OrderTo.l0 : Nat → List Bool → List Bool → List (S87) → List Int → Int → Option ((List (S87)))
 | 0, _, _, _, _, _ => none
 | k + 1, x0, x1, x5, x6, x7 => if x7 < (x6.length : Int) then (if 0 ≤ x7 then (if 0 ≤ (rd x6 x7) then (if (rd x6 x7) < (x0.length : Int) then (if rdOf false x0 (rd x6 x7) = true then (if x5.length < 8796093022208 then (spec_OrderTo.l0 k x0 x1 (x5 ++ [(⟨rd x6 x7, false⟩ : S87)]) x6 (wrap64 (x7 + 1))) else (none)) else (spec_OrderTo.l0 k x0 x1 x5 x6 (wrap64 (x7 + 1)))) else (none)) else (none)) else (none)) else (spec_OrderTo.l1 k x1 x5 x6 0)
def spec_OrderTo.l1 : Nat → List Bool → List (S87) → List Int → Int → Option ((List (S87)))
 | 0, _, _, _, _ => none
 | k + 1, x1, x5, x6, x8 => if x8 < (x6.length : Int) then (if 0 ≤ x8 then (if 0 ≤ (rd x6 x8) then (if (rd x6 x8) < (x1.length : Int) then (if rdOf false x1 (rd x6 x8) = true then (if x5.length < 8796093022208 then (spec_OrderTo.l1 k x1 (x5 ++ [(⟨rd x6 x8, true⟩ : S87)]) x6 (wrap64 (x8 + 1))) else (none)) else (spec_OrderTo.l1 k x1 x5 x6 (wrap64 (x8 + 1)))) else (none)) else (none)) else (none)) else (some x5)
end
def spec_OrderTo.f (k : Nat) (l0 : List Bool) (l1 : List Bool) : Option ((List (S87))) := (some (([] : List (S87)) : List (S87))).bind fun y363 => ((spec_Changes.f k l0 l1).bind fun t366 => (if (l0.length : Int) > 10 then (some y363) else (spec_OrderTo.l0 k l0 l1 y363 t366 0)))
theorem spec_OrderTo.mono_l : ∀ k, (∀ y0 y1 y2 y3 y4, LeO (spec_OrderTo.l0 k y0 y1 y2 y3 y4) (spec_OrderTo.l0 (k + 1) y0 y1 y2 y3 y4)) ∧ (∀ y0 y1 y2 y3, LeO (spec_OrderTo.l1 k y0 y1 y2 y3) (spec_OrderTo.l1 (k + 1) y0 y1 y2 y3))
 | 0 => ⟨fun _ _ _ _ _ r h => by simp [spec_OrderTo.l0] at h, fun _ _ _ _ r h => by simp [spec_OrderTo.l1] at h⟩
 | k + 1 => by
  obtain ⟨ih0, ih1⟩ := spec_OrderTo.mono_l k
  refine ⟨?_, ?_⟩
  ·intro y0 y1 y2 y3 y4
   unfold spec_OrderTo.l0
   repeat' first
   | (with_reducible exact ih0 _ _ _ _ _)
   | (with_reducible exact ih1 _ _ _ _)
   | (with_reducible exact spec_Changes.mono _ _ _)
   | (with_reducible exact LeO.refl _)
   | (with_reducible exact LeO.none _)
   | (with_reducible refine LeO.ite ?_ ?_)
   | (with_reducible refine LeO.bind ?_ (fun _ => ?_))
   | exact ih0 _ _ _ _ _
   | exact ih1 _ _ _ _
   | exact spec_Changes.mono _ _ _
   | exact LeO.none _
   | refine LeO.ite ?_ ?_
   | refine LeO.bind ?_ (fun _ => ?_)
  ·intro y0 y1 y2 y3
   unfold spec_OrderTo.l1
   repeat' first
   | (with_reducible exact ih0 _ _ _ _ _)
   | (with_reducible exact ih1 _ _ _ _)
   | (with_reducible exact spec_Changes.mono _ _ _)
   | (with_reducible exact LeO.refl _)
   | (with_reducible exact LeO.none _)
   | (with_reducible refine LeO.ite ?_ ?_)
   | (with_reducible refine LeO.bind ?_ (fun _ => ?_))
   | exact ih0 _ _ _ _ _
   | exact ih1 _ _ _ _
   | exact spec_Changes.mono _ _ _
   | exact LeO.none _
   | refine LeO.ite ?_ ?_
   | refine LeO.bind ?_ (fun _ => ?_)
theorem spec_OrderTo.mono : ∀ a0 a1 k, LeO (spec_OrderTo.f k a0 a1) (spec_OrderTo.f (k + 1) a0 a1) := by
 intro a0 a1 k
 obtain ⟨ih0, ih1⟩ := spec_OrderTo.mono_l k
 unfold spec_OrderTo.f
 repeat' first
   | (with_reducible exact ih0 _ _ _ _ _)
   | (with_reducible exact ih1 _ _ _ _)
   | (with_reducible exact spec_Changes.mono _ _ _)
   | (with_reducible exact LeO.refl _)
   | (with_reducible exact LeO.none _)
   | (with_reducible refine LeO.ite ?_ ?_)
   | (with_reducible refine LeO.bind ?_ (fun _ => ?_))
   | exact ih0 _ _ _ _ _
   | exact ih1 _ _ _ _
   | exact spec_Changes.mono _ _ _
   | exact LeO.none _
   | refine LeO.ite ?_ ?_
   | refine LeO.bind ?_ (fun _ => ?_)
set_option maxHeartbeats 8000000 in
set_option maxRecDepth 100000 in
theorem spec_OrderTo.calls (k : Nat) (A0 : Option Addr) (c0 : Nat) (l0 : List Bool) (A1 : Option Addr) (c1 : Nat) (l1 : List Bool) (r : List (S87)) (w : World) (hr0 : Kd.C Kd.bool w A0 l0.length l0) (hc0 : l0.length ≤ c0) (hr1 : Kd.C Kd.bool w A1 l1.length l1) (hc1 : l1.length ≤ c1) (h : spec_OrderTo.f k l0 l1 = some r) :
  Calls Tryd.prog 17 #[.slice A0 l0.length c0, .slice A1 l1.length c1] w fun e w' => ∃ v0_ : Value, e = .returned (v0_) ∧ Kd.R k87 87 w' w.heap.size (fun _ => True) v0_ r ∧ Below w.heap.size w w' := by
 have hu87 := Tryd.underlying87
 have HR0 := Aside0.mk hr0
 have HC0 := Aside0.mk hc0
 clear hr0 hc0
 have HR1 := Aside0.mk hr1
 have HC1 := Aside0.mk hc1
 clear hr1 hc1
 have HB := Aside0.mk (Below.refl w.heap.size w)
 have H : ((some (([] : List (S87)) : List (S87))).bind fun y363 => ((spec_Changes.f k l0 l1).bind fun t366 => (if (l0.length : Int) > 10 then (some y363) else (spec_OrderTo.l0 k l0 l1 y363 t366 0)))) = some r := h
 clear h
 obtain ⟨y363, hy363⟩ : ∃ y_ : List (S87), y_ = (([] : List (S87))) := ⟨_, rfl⟩
 replace H : ((spec_Changes.f k l0 l1).bind fun t366 => (if (l0.length : Int) > 10 then (some y363) else (spec_OrderTo.l0 k l0 l1 y363 t366 0))) = some r := by first | (rw [hy363]; with_reducible exact H) | (have H2_ := (Option.bind_some _ _).symm.trans H; rw [hy363]; with_reducible exact H2_) | (have H2_ := (Option.bind_some _ _).symm.trans H; with_reducible exact H2_) | with_reducible exact H | (rw [hy363]; exact H) | exact H
 have Ny363 := Aside0.mk hy363
 clear hy363
 replace H := Option.bind_eq_some_iff.mp H
 obtain ⟨t366, A30, H⟩ := H
 replace H : (if (l0.length : Int) > 10 then (some y363) else (spec_OrderTo.l0 k l0 l1 y363 t366 0)) = some r := H
 have A3 := Aside0.mk A30
 clear A30
 by_cases c4 : (l0.length : Int) > 10
 ·rw [if_pos c4] at H
  have c4b0 : decide (10 < (l0.length : Int)) = true := decide_eq_true c4
  have c4b1 : decide (10 < l0.length) = true := decide_eq_true (by omega)
  clear c4
  obtain rfl := Option.some.inj H
  go_enter Tryd.func17, Tryd.ntmps17
  go_wp2_with (first | ((with_reducible refine gate_dst (N := 9) rfl ?_); refine Kd.R_lit k87 _ 87 ?hg (N := 9) ?hd (xs := ([] : List (S87))) (inner := []) (ok := fun _ => True) (okp := fun _ => True) ?hr ?hp (fun _ hk => by first | exact hk | grind) trivial (Below.refl _ _) (Nat.le_refl _) (by simp) ?_; (case hd => rfl); (case hg => rfl); (case hr => first | (go_simp; done) | (go_simp; rfl)); (case hp => exact (Reps.none _ _)); intro v364 w5 ho6 hb hg_ hnew_; clear hg_ hnew_; (first | rw [← Ny363.out] at ho6 | (simp only [Int.reduceToNat] at ho6; rw [← Ny363.out] at ho6)); have n0_ := Aside0.mk (Kd.R_lower ho6 (below_size bw)); have n1_ := Aside0.mk (below_step bw hb); clear HB; have HO365 := n0_; have HB := n1_; clear n0_ n1_; clear hb ho6) | ((with_reducible refine gate_callee (f := 53) rfl ?_); refine goesL_ (some 12) rfl rfl Tryd.func53 (by kernel_rfl) rfl #[.slice A0 l0.length c0, .slice A1 l1.length c1] rfl (by (try simp only [List.map_toArray, List.map_cons, List.map_nil]); first | done | rfl | (simp only [List.length_drop, List.length_take]; rfl)) ?_; (with_reducible refine (spec_Changes.calls k _ _ l0 _ _ l1 t366 _ ?side1 ?side2 ?side3 ?side4 A3.out).mono ?_); (case side1 => exact cb HR0); (case side2 => exact HC0.out); (case side3 => exact cb HR1); (case side4 => exact HC1.out); rintro e w7 ⟨v367, rfl, ho0, hb⟩; refine ⟨_, rfl, ?_⟩; have n0_ := rB HO365 hb; have n1_ := Aside0.mk (Kd.R_lower ho0 (below_size bw)); have n2_ := Aside0.mk (below_step bw hb); clear HO365 HB; have HO365 := n0_; have HO368 := n1_; have HB := n2_; clear n0_ n1_ n2_; (try clear hb); (try clear hb2); (try clear hk); (try clear hi); (try clear ho0)))
  go_ret
  exact ⟨_, by first | rfl | (simp [errW_none, errW_some] <;> rfl) | (simp [*, errW_none, errW_some] <;> rfl), rk HO365, bw⟩
 ·rw [if_neg c4] at H
  have c4b0 : decide (10 < (l0.length : Int)) = false := decide_eq_false c4
  have c4b1 : decide (10 < l0.length) = false := decide_eq_false (by omega)
  clear c4
  have H' := Aside0.mk H
  clear H
  go_enter Tryd.func17, Tryd.ntmps17
  go_wp2_with (first | ((with_reducible refine gate_dst (N := 9) rfl ?_); refine Kd.R_lit k87 _ 87 ?hg (N := 9) ?hd (xs := ([] : List (S87))) (inner := []) (ok := fun _ => True) (okp := fun _ => True) ?hr ?hp (fun _ hk => by first | exact hk | grind) trivial (Below.refl _ _) (Nat.le_refl _) (by simp) ?_; (case hd => rfl); (case hg => rfl); (case hr => first | (go_simp; done) | (go_simp; rfl)); (case hp => exact (Reps.none _ _)); intro v364 w8 ho9 hb hg_ hnew_; clear hg_ hnew_; (first | rw [← Ny363.out] at ho9 | (simp only [Int.reduceToNat] at ho9; rw [← Ny363.out] at ho9)); have n0_ := Aside0.mk (Kd.R_lower ho9 (below_size bw)); have n1_ := Aside0.mk (below_step bw hb); clear HB; have HO365 := n0_; have HB := n1_; clear n0_ n1_; clear hb ho9) | ((with_reducible refine gate_callee (f := 53) rfl ?_); refine goesL_ (some 12) rfl rfl Tryd.func53 (by kernel_rfl) rfl #[.slice A0 l0.length c0, .slice A1 l1.length c1] rfl (by (try simp only [List.map_toArray, List.map_cons, List.map_nil]); first | done | rfl | (simp only [List.length_drop, List.length_take]; rfl)) ?_; (with_reducible refine (spec_Changes.calls k _ _ l0 _ _ l1 t366 _ ?side1 ?side2 ?side3 ?side4 A3.out).mono ?_); (case side1 => exact cb HR0); (case side2 => exact HC0.out); (case side3 => exact cb HR1); (case side4 => exact HC1.out); rintro e w10 ⟨v367, rfl, ho0, hb⟩; refine ⟨_, rfl, ?_⟩; have n0_ := rB HO365 hb; have n1_ := Aside0.mk (Kd.R_lower ho0 (below_size bw)); have n2_ := Aside0.mk (below_step bw hb); clear HO365 HB; have HO365 := n0_; have HO368 := n1_; have HB := n2_; clear n0_ n1_ n2_; (try clear hb); (try clear hb2); (try clear hk); (try clear hi); (try clear ho0)))
  go_loopg [5, 7] k (fun kq v5 v7 w' => ∃ (x5_1 : List (S87)) (x7_1 : Int), v7 = .int .i64 x7_1 ∧ Aside0 (spec_OrderTo.l0 kq l0 l1 x5_1 t366 x7_1 = some r) ∧ Aside0 (kq ≤ k) ∧ Aside0 (Kd.R k87 87 w' w.heap.size (fun _ => True) v5 x5_1) ∧ Aside0 (Kd.R (Kd.int .i64) 3 w' w.heap.size (fun _ => True) v367 t366) ∧ Aside0 (Below w.heap.size w w'))
  case atStart => exact ⟨(y363), (0), (by first | rfl | (simp; done) | (simp [*]; done)), H', ⟨Nat.le_refl _⟩, ⟨rk HO365⟩, ⟨rk HO368⟩, ⟨bw⟩⟩
  case round =>
   clear H'
   try clear c1
   try clear p2
   try clear c4
   try clear c4b0
   try clear c4b1
   try clear c5
   obtain ⟨x5_1, x7_1, rfl, HA, HK1, HO_5, HO_6, HB⟩ := hrel
   cases gk with
   | zero => exact absurd HA.out (by simp [spec_OrderTo.l0])
   | succ k1 =>
    have H := HA.out
    clear HA
    simp only [spec_OrderTo.l0] at H
    by_cases c11 : x7_1 < (t366.length : Int)
    ·rw [if_pos c11] at H
     have c11b0 : decide (x7_1 < (t366.length : Int)) = true := decide_eq_true c11
     clear c11
     by_cases c12 : 0 ≤ x7_1
     ·rw [if_pos c12] at H
      have c12b0 : decide (0 ≤ x7_1) = true := decide_eq_true c12
      clear c12
      by_cases c13 : 0 ≤ (rd t366 x7_1)
      ·rw [if_pos c13] at H
       have c13b0 : decide (0 ≤ (rd t366 x7_1)) = true := decide_eq_true c13
       clear c13
       by_cases c14 : (rd t366 x7_1) < (l0.length : Int)
       ·rw [if_pos c14] at H
        have c14b0 : decide ((rd t366 x7_1) < (l0.length : Int)) = true := decide_eq_true c14
        clear c14
        obtain ⟨bq15, hbq15⟩ : ∃ b_ : Bool, b_ = (rdOf false l0 (rd t366 x7_1)) := ⟨_, rfl⟩
        replace H : (if bq15 = true then (if x5_1.length < 8796093022208 then (spec_OrderTo.l0 k1 l0 l1 (x5_1 ++ [(⟨rd t366 x7_1, false⟩ : S87)]) t366 (wrap64 (x7_1 + 1))) else (none)) else (spec_OrderTo.l0 k1 l0 l1 x5_1 t366 (wrap64 (x7_1 + 1)))) = some r := by rw [← hbq15] at H; exact H
        have Nbq15 := Aside0.mk hbq15
        clear hbq15
        by_cases c16 : bq15 = true
        ·subst c16
         have H1 : (if x5_1.length < 8796093022208 then (spec_OrderTo.l0 k1 l0 l1 (x5_1 ++ [(⟨rd t366 x7_1, false⟩ : S87)]) t366 (wrap64 (x7_1 + 1))) else (none)) = some r := by rw [if_pos rfl] at H; exact H
         clear H
         have H := H1
         clear H1
         by_cases c17 : x5_1.length < 8796093022208
         ·rw [if_pos c17] at H
          have LMc17 := Aside0.mk c17
          clear c17
          obtain ⟨y372, hy372⟩ : ∃ y_ : List (S87), y_ = (x5_1 ++ [(⟨rd t366 x7_1, false⟩ : S87)]) := ⟨_, rfl⟩
          replace H : (spec_OrderTo.l0 k1 l0 l1 y372 t366 (wrap64 (x7_1 + 1))) = some r := by first | (rw [hy372]; with_reducible exact H) | (have H2_ := (Option.bind_some _ _).symm.trans H; rw [hy372]; with_reducible exact H2_) | (have H2_ := (Option.bind_some _ _).symm.trans H; with_reducible exact H2_) | with_reducible exact H | (rw [hy372]; exact H) | exact H
          have Ny372 := Aside0.mk hy372
          clear hy372
          have H' := Aside0.mk H
          clear H
          obtain ⟨Ao18, co18, eo18⟩ := Kd.R_slice HO_6.out
          subst eo18
          have p369 : 0 ≤ (x7_1 : Int) := of_decide_eq_true (by first | (with_reducible assumption) | assumption)
          have q369 : x7_1 < (t366.length : Int) := of_decide_eq_true (by first | (with_reducible assumption) | assumption)
          obtain ⟨ad369, e369, hx369_0⟩ := Kd.at_int (Kd.R_reads' HO_6.out).2.2 x7_1 p369 q369
          cases e369
          replace p369 := eq_true p369
          replace q369 := eq_true q369
          have p370 : 0 ≤ ((rd t366 x7_1) : Int) := of_decide_eq_true (by first | (with_reducible assumption) | assumption)
          have q370 : (rd t366 x7_1) < (l0.length : Int) := of_decide_eq_true (by first | (with_reducible assumption) | assumption)
          obtain ⟨ad370, e370, hx370_0⟩ := Kd.at_bool HR0.out (rd t366 x7_1) p370 q370
          (try rw [← Nbq15.out] at hx370_0)
          cases e370
          replace hx370_0 := (HB.out.cell (World.block_lt_of_cell? w _ hx370_0)).trans hx370_0
          replace p370 := eq_true p370
          replace q370 := eq_true q370
          have p371 : 0 ≤ (x7_1 : Int) := of_decide_eq_true (by first | (with_reducible assumption) | assumption)
          have q371 : x7_1 < (t366.length : Int) := of_decide_eq_true (by first | (with_reducible assumption) | assumption)
          obtain ⟨ad371, e371, hx371_0⟩ := Kd.at_int (Kd.R_reads' HO_6.out).2.2 x7_1 p371 q371
          obtain rfl : ad369 = ad371 := (by injection e371)
          replace p371 := eq_true p371
          replace q371 := eq_true q371
          go_wp2_with (first | ((with_reducible refine gate_builtin (b := .append) (xs := #[.tmp 30, .tmp 36]) rfl ?_); at_builtin; refine Kd.R_append k87 (w0 := w) w.heap.size rfl (.tmp 30) (.tmp 36) 35 87 (.agg #[(.int .i64 0), (.bool false)]) 16 rfl Tryd.underlying35 info87 rfl (by decide) (by omega) u5 x5_1 (⟨rd t366 x7_1, false⟩ : S87) [.int .i64 (rd t366 x7_1), .bool false] (fun _ => True) (fun _ => False) rfl rfl ?aP (fun _ hk => by first | exact hk.elim | grind) ?aF ?aO ?aB ?aS ?aL ?_; (case aP => exact k87_mkM _ _ _ (⟨rd t366 x7_1, false⟩ : S87)); (case aB => exact bw); (case aF => exact (fun _ _ => trivial)); (case aO => exact (rk HO_5)); (case aS => exact (below_size bw)); (case aL => have := LMc17.out; omega); intro v373 w19 ho hb hg hat; rw [← Ny372.out] at ho; have n0_ := Aside0.mk (Kd.R_over' (rk HO_6) (Kd.R_typed (rk HO_5)) (by decide) hg); have n1_ := Aside0.mk (hb); have n2_ := Aside0.mk (ho); clear HO_6 HB HO_5; have HO_6 := n0_; have HB := n1_; have HO374 := n2_; clear n0_ n1_ n2_; clear ho hb hg hat))
          go_roundg k1
          case measure => have := HK1.out; omega
          case rel => exact ⟨(y372), (wrap64 (x7_1 + 1)), (by first | rfl | (simp; done) | (simp [*]; done)), H', ⟨by have := HK1.out; omega⟩, ⟨rk HO374⟩, ⟨rk HO_6⟩, ⟨bw⟩⟩
         ·rw [if_neg c17] at H
          exact absurd H (by simp)
        ·replace c16 := Bool.eq_false_iff.mpr c16
         subst c16
         have H1 : (spec_OrderTo.l0 k1 l0 l1 x5_1 t366 (wrap64 (x7_1 + 1))) = some r := by rw [if_neg (show ¬ (false = true) by decide)] at H; exact H
         clear H
         have H := H1
         clear H1
         have H' := Aside0.mk H
         clear H
         obtain ⟨Ao20, co20, eo20⟩ := Kd.R_slice HO_6.out
         subst eo20
         have p369 : 0 ≤ (x7_1 : Int) := of_decide_eq_true (by first | (with_reducible assumption) | assumption)
         have q369 : x7_1 < (t366.length : Int) := of_decide_eq_true (by first | (with_reducible assumption) | assumption)
         obtain ⟨ad369, e369, hx369_0⟩ := Kd.at_int (Kd.R_reads' HO_6.out).2.2 x7_1 p369 q369
         cases e369
         replace p369 := eq_true p369
         replace q369 := eq_true q369
         have p370 : 0 ≤ ((rd t366 x7_1) : Int) := of_decide_eq_true (by first | (with_reducible assumption) | assumption)
         have q370 : (rd t366 x7_1) < (l0.length : Int) := of_decide_eq_true (by first | (with_reducible assumption) | assumption)
         obtain ⟨ad370, e370, hx370_0⟩ := Kd.at_bool HR0.out (rd t366 x7_1) p370 q370
         (try rw [← Nbq15.out] at hx370_0)
         cases e370
         replace hx370_0 := (HB.out.cell (World.block_lt_of_cell? w _ hx370_0)).trans hx370_0
         replace p370 := eq_true p370
         replace q370 := eq_true q370
         go_wp2
         go_roundg k1
         case measure => have := HK1.out; omega
         case rel => exact ⟨(x5_1), (wrap64 (x7_1 + 1)), (by first | rfl | (simp; done) | (simp [*]; done)), H', ⟨by have := HK1.out; omega⟩, ⟨rk HO_5⟩, ⟨rk HO_6⟩, ⟨bw⟩⟩
       ·rw [if_neg c14] at H
        exact absurd H (by simp)
      ·rw [if_neg c13] at H
       exact absurd H (by simp)
     ·rw [if_neg c12] at H
      exact absurd H (by simp)
    ·rw [if_neg c11] at H
     have c11b0 : decide (x7_1 < (t366.length : Int)) = false := decide_eq_false c11
     clear c11
     have H' := Aside0.mk H
     clear H
     obtain ⟨Ao21, co21, eo21⟩ := Kd.R_slice HO_6.out
     subst eo21
     go_wp2
     go_loopg [5, 8] k1 (fun kq v5 v8 w' => ∃ (x5_2 : List (S87)) (x8_2 : Int), v8 = .int .i64 x8_2 ∧ Aside0 (spec_OrderTo.l1 kq l1 x5_2 t366 x8_2 = some r) ∧ Aside0 (kq ≤ k1) ∧ Aside0 (Kd.R k87 87 w' w.heap.size (fun _ => True) v5 x5_2) ∧ Aside0 (Kd.R (Kd.int .i64) 3 w' w.heap.size (fun _ => True) (.slice Ao21 t366.length co21) t366) ∧ Aside0 (Below w.heap.size w w'))
     case atStart => exact ⟨(x5_1), (0), (by first | rfl | (simp; done) | (simp [*]; done)), H', ⟨Nat.le_refl _⟩, ⟨rk HO_5⟩, ⟨rk HO_6⟩, ⟨bw⟩⟩
     case round =>
      clear H'
      try clear c1
      try clear q1
      try clear p2
      try clear p3
      try clear q3
      try clear hx3
      try clear c4
      try clear c4b0
      try clear c4b1
      try clear c5
      try clear p6
      try clear c11
      try clear c11b0
      try clear c12
      try clear c12b0
      try clear c13
      try clear c13b0
      try clear c14
      try clear c14b0
      try clear q15
      try clear c16
      try clear c17
      try clear hx369_0
      try clear hx370_0
      try clear hx371_0
      try clear p2
      try clear p369
      try clear p370
      try clear p371
      try clear q369
      try clear q370
      try clear q371
      obtain ⟨x5_2, x8_2, rfl, HA, HK2, HO_5, HO_6, HB⟩ := hrel
      cases gk with
      | zero => exact absurd HA.out (by simp [spec_OrderTo.l1])
      | succ k2 =>
       have H := HA.out
       clear HA
       simp only [spec_OrderTo.l1] at H
       by_cases c22 : x8_2 < (t366.length : Int)
       ·rw [if_pos c22] at H
        have c22b0 : decide (x8_2 < (t366.length : Int)) = true := decide_eq_true c22
        clear c22
        by_cases c23 : 0 ≤ x8_2
        ·rw [if_pos c23] at H
         have c23b0 : decide (0 ≤ x8_2) = true := decide_eq_true c23
         clear c23
         by_cases c24 : 0 ≤ (rd t366 x8_2)
         ·rw [if_pos c24] at H
          have c24b0 : decide (0 ≤ (rd t366 x8_2)) = true := decide_eq_true c24
          clear c24
          by_cases c25 : (rd t366 x8_2) < (l1.length : Int)
          ·rw [if_pos c25] at H
           have c25b0 : decide ((rd t366 x8_2) < (l1.length : Int)) = true := decide_eq_true c25
           clear c25
           obtain ⟨bq26, hbq26⟩ : ∃ b_ : Bool, b_ = (rdOf false l1 (rd t366 x8_2)) := ⟨_, rfl⟩
           replace H : (if bq26 = true then (if x5_2.length < 8796093022208 then (spec_OrderTo.l1 k2 l1 (x5_2 ++ [(⟨rd t366 x8_2, true⟩ : S87)]) t366 (wrap64 (x8_2 + 1))) else (none)) else (spec_OrderTo.l1 k2 l1 x5_2 t366 (wrap64 (x8_2 + 1)))) = some r := by rw [← hbq26] at H; exact H
           have Nbq26 := Aside0.mk hbq26
           clear hbq26
           by_cases c27 : bq26 = true
           ·subst c27
            have H1 : (if x5_2.length < 8796093022208 then (spec_OrderTo.l1 k2 l1 (x5_2 ++ [(⟨rd t366 x8_2, true⟩ : S87)]) t366 (wrap64 (x8_2 + 1))) else (none)) = some r := by rw [if_pos rfl] at H; exact H
            clear H
            have H := H1
            clear H1
            by_cases c28 : x5_2.length < 8796093022208
            ·rw [if_pos c28] at H
             have LMc28 := Aside0.mk c28
             clear c28
             obtain ⟨y378, hy378⟩ : ∃ y_ : List (S87), y_ = (x5_2 ++ [(⟨rd t366 x8_2, true⟩ : S87)]) := ⟨_, rfl⟩
             replace H : (spec_OrderTo.l1 k2 l1 y378 t366 (wrap64 (x8_2 + 1))) = some r := by first | (rw [hy378]; with_reducible exact H) | (have H2_ := (Option.bind_some _ _).symm.trans H; rw [hy378]; with_reducible exact H2_) | (have H2_ := (Option.bind_some _ _).symm.trans H; with_reducible exact H2_) | with_reducible exact H | (rw [hy378]; exact H) | exact H
             have Ny378 := Aside0.mk hy378
             clear hy378
             have H' := Aside0.mk H
             clear H
             have p375 : 0 ≤ (x8_2 : Int) := of_decide_eq_true (by first | (with_reducible assumption) | assumption)
             have q375 : x8_2 < (t366.length : Int) := of_decide_eq_true (by first | (with_reducible assumption) | assumption)
             obtain ⟨ad375, e375, hx375_0⟩ := Kd.at_int (Kd.R_reads' HO_6.out).2.2 x8_2 p375 q375
             cases e375
             replace p375 := eq_true p375
             replace q375 := eq_true q375
             have p376 : 0 ≤ ((rd t366 x8_2) : Int) := of_decide_eq_true (by first | (with_reducible assumption) | assumption)
             have q376 : (rd t366 x8_2) < (l1.length : Int) := of_decide_eq_true (by first | (with_reducible assumption) | assumption)
             obtain ⟨ad376, e376, hx376_0⟩ := Kd.at_bool HR1.out (rd t366 x8_2) p376 q376
             (try rw [← Nbq26.out] at hx376_0)
             cases e376
             replace hx376_0 := (HB.out.cell (World.block_lt_of_cell? w _ hx376_0)).trans hx376_0
             replace p376 := eq_true p376
             replace q376 := eq_true q376
             have p377 : 0 ≤ (x8_2 : Int) := of_decide_eq_true (by first | (with_reducible assumption) | assumption)
             have q377 : x8_2 < (t366.length : Int) := of_decide_eq_true (by first | (with_reducible assumption) | assumption)
             obtain ⟨ad377, e377, hx377_0⟩ := Kd.at_int (Kd.R_reads' HO_6.out).2.2 x8_2 p377 q377
             obtain rfl : ad375 = ad377 := (by injection e377)
             replace p377 := eq_true p377
             replace q377 := eq_true q377
             go_wp2_with (first | ((with_reducible refine gate_builtin (b := .append) (xs := #[.tmp 51, .tmp 57]) rfl ?_); at_builtin; refine Kd.R_append k87 (w0 := w) w.heap.size rfl (.tmp 51) (.tmp 57) 35 87 (.agg #[(.int .i64 0), (.bool false)]) 16 rfl Tryd.underlying35 info87 rfl (by decide) (by omega) u5 x5_2 (⟨rd t366 x8_2, true⟩ : S87) [.int .i64 (rd t366 x8_2), .bool true] (fun _ => True) (fun _ => False) rfl rfl ?aP (fun _ hk => by first | exact hk.elim | grind) ?aF ?aO ?aB ?aS ?aL ?_; (case aP => exact k87_mkM _ _ _ (⟨rd t366 x8_2, true⟩ : S87)); (case aB => exact bw); (case aF => exact (fun _ _ => trivial)); (case aO => exact (rk HO_5)); (case aS => exact (below_size bw)); (case aL => have := LMc28.out; omega); intro v379 w29 ho hb hg hat; rw [← Ny378.out] at ho; have n0_ := Aside0.mk (Kd.R_over' (rk HO_6) (Kd.R_typed (rk HO_5)) (by decide) hg); have n1_ := Aside0.mk (hb); have n2_ := Aside0.mk (ho); clear HO_6 HB HO_5; have HO_6 := n0_; have HB := n1_; have HO380 := n2_; clear n0_ n1_ n2_; clear ho hb hg hat))
             go_roundg k2
             case measure => have := HK1.out; have := HK2.out; omega
             case rel => exact ⟨(y378), (wrap64 (x8_2 + 1)), (by first | rfl | (simp; done) | (simp [*]; done)), H', ⟨by have := HK1.out; have := HK2.out; omega⟩, ⟨rk HO380⟩, ⟨rk HO_6⟩, ⟨bw⟩⟩
            ·rw [if_neg c28] at H
             exact absurd H (by simp)
           ·replace c27 := Bool.eq_false_iff.mpr c27
            subst c27
            have H1 : (spec_OrderTo.l1 k2 l1 x5_2 t366 (wrap64 (x8_2 + 1))) = some r := by rw [if_neg (show ¬ (false = true) by decide)] at H; exact H
            clear H
            have H := H1
            clear H1
            have H' := Aside0.mk H
            clear H
            have p375 : 0 ≤ (x8_2 : Int) := of_decide_eq_true (by first | (with_reducible assumption) | assumption)
            have q375 : x8_2 < (t366.length : Int) := of_decide_eq_true (by first | (with_reducible assumption) | assumption)
            obtain ⟨ad375, e375, hx375_0⟩ := Kd.at_int (Kd.R_reads' HO_6.out).2.2 x8_2 p375 q375
            cases e375
            replace p375 := eq_true p375
            replace q375 := eq_true q375
            have p376 : 0 ≤ ((rd t366 x8_2) : Int) := of_decide_eq_true (by first | (with_reducible assumption) | assumption)
            have q376 : (rd t366 x8_2) < (l1.length : Int) := of_decide_eq_true (by first | (with_reducible assumption) | assumption)
            obtain ⟨ad376, e376, hx376_0⟩ := Kd.at_bool HR1.out (rd t366 x8_2) p376 q376
            (try rw [← Nbq26.out] at hx376_0)
            cases e376
            replace hx376_0 := (HB.out.cell (World.block_lt_of_cell? w _ hx376_0)).trans hx376_0
            replace p376 := eq_true p376
            replace q376 := eq_true q376
            go_wp2
            go_roundg k2
            case measure => have := HK1.out; have := HK2.out; omega
            case rel => exact ⟨(x5_2), (wrap64 (x8_2 + 1)), (by first | rfl | (simp; done) | (simp [*]; done)), H', ⟨by have := HK1.out; have := HK2.out; omega⟩, ⟨rk HO_5⟩, ⟨rk HO_6⟩, ⟨bw⟩⟩
          ·rw [if_neg c25] at H
           exact absurd H (by simp)
         ·rw [if_neg c24] at H
          exact absurd H (by simp)
        ·rw [if_neg c23] at H
         exact absurd H (by simp)
       ·rw [if_neg c22] at H
        have c22b0 : decide (x8_2 < (t366.length : Int)) = false := decide_eq_false c22
        clear c22
        obtain rfl := Option.some.inj H
        go_wp2
        go_ret
        exact ⟨_, by first | rfl | (simp [errW_none, errW_some] <;> rfl) | (simp [*, errW_none, errW_some] <;> rfl), rk HO_5, bw⟩

/-! ### spec_OrderValid: function 24 -/
def spec_OrderValid.l0 : Nat → List (S87) → Int → Option (Bool)
 | 0, _, _ => none
 | k + 1, x0, x3 => if x3 < (x0.length : Int) then (if 0 ≤ x3 then ((spec_l1In.f ((rd_T87 x0 x3).f0) 0 9).bind fun t430 => (if t430 = true then (spec_OrderValid.l0 k x0 (wrap64 (x3 + 1))) else (some false))) else (none)) else (some (decide ((x0.length : Int) ≤ 12)))
def spec_OrderValid.f (k : Nat) (l0 : List (S87)) : Option (Bool) := spec_OrderValid.l0 k l0 0
theorem spec_OrderValid.mono_l : ∀ k, (∀ y0 y1, LeO (spec_OrderValid.l0 k y0 y1) (spec_OrderValid.l0 (k + 1) y0 y1))
 | 0 => fun _ _ r h => by simp [spec_OrderValid.l0] at h
 | k + 1 => by
  have ih0 := spec_OrderValid.mono_l k
  ·intro y0 y1
   unfold spec_OrderValid.l0
   repeat' first
   | (with_reducible exact ih0 _ _)
   | (with_reducible exact LeO.refl _)
   | (with_reducible exact LeO.none _)
   | (with_reducible refine LeO.ite ?_ ?_)
   | (with_reducible refine LeO.bind ?_ (fun _ => ?_))
   | exact ih0 _ _
   | exact LeO.none _
   | refine LeO.ite ?_ ?_
   | refine LeO.bind ?_ (fun _ => ?_)
theorem spec_OrderValid.mono : ∀ a0 k, LeO (spec_OrderValid.f k a0) (spec_OrderValid.f (k + 1) a0) := by
 intro a0 k
 have ih0 := spec_OrderValid.mono_l k
 unfold spec_OrderValid.f
 repeat' first
   | (with_reducible exact ih0 _ _)
   | (with_reducible exact LeO.refl _)
   | (with_reducible exact LeO.none _)
   | (with_reducible refine LeO.ite ?_ ?_)
   | (with_reducible refine LeO.bind ?_ (fun _ => ?_))
   | exact ih0 _ _
   | exact LeO.none _
   | refine LeO.ite ?_ ?_
   | refine LeO.bind ?_ (fun _ => ?_)
set_option maxHeartbeats 8000000 in
set_option maxRecDepth 100000 in
theorem spec_OrderValid.calls (k : Nat) (A0 : Option Addr) (c0 : Nat) (l0 : List (S87)) (r : Bool) (w : World) (hr0 : Kd.C k87 w A0 l0.length l0) (hc0 : l0.length ≤ c0) (h : spec_OrderValid.f k l0 = some r) :
  Calls Tryd.prog 24 #[.slice A0 l0.length c0] w fun e w' => e = .returned (.bool r) ∧ Drawn0 w w' := by
 have HR0 := Aside0.mk hr0
 have HC0 := Aside0.mk hc0
 clear hr0 hc0
 have H : (spec_OrderValid.l0 k l0 0) = some r := h
 clear h
 have H' := Aside0.mk H
 clear H
 go_enter Tryd.func24, Tryd.ntmps24
 go_wp2
 go_loopg [3] k (fun kq v3 w' => ∃ (x3_1 : Int), v3 = .int .i64 x3_1 ∧ Aside0 (spec_OrderValid.l0 kq l0 x3_1 = some r) ∧ Aside0 (kq ≤ k) ∧ Drawn0 w w')
 case atStart => exact ⟨(0), (by first | rfl | (simp; done) | (simp [*]; done)), H', ⟨Nat.le_refl _⟩, by repeat (first | exact Drawn0.refl _ | apply Drawn0.step)⟩
 case round =>
  clear H'
  obtain ⟨x3_1, rfl, HA, HK1, ⟨m1, rfl⟩⟩ := hrel
  cases gk with
  | zero => exact absurd HA.out (by simp [spec_OrderValid.l0])
  | succ k1 =>
   have H := HA.out
   clear HA
   simp only [spec_OrderValid.l0] at H
   by_cases c2 : x3_1 < (l0.length : Int)
   ·rw [if_pos c2] at H
    have c2b0 : decide (x3_1 < (l0.length : Int)) = true := decide_eq_true c2
    clear c2
    by_cases c3 : 0 ≤ x3_1
    ·rw [if_pos c3] at H
     have c3b0 : decide (0 ≤ x3_1) = true := decide_eq_true c3
     clear c3
     replace H := Option.bind_eq_some_iff.mp H
     obtain ⟨t430, A40, H⟩ := H
     replace H : (if t430 = true then (spec_OrderValid.l0 k1 l0 (wrap64 (x3_1 + 1))) else (some false)) = some r := H
     have A4 := Aside0.mk A40
     clear A40
     by_cases c5 : t430 = true
     ·subst c5
      have H1 : (spec_OrderValid.l0 k1 l0 (wrap64 (x3_1 + 1))) = some r := by rw [if_pos rfl] at H; exact H
      clear H
      have H := H1
      clear H1
      have H' := Aside0.mk H
      clear H
      have p429 : 0 ≤ (x3_1 : Int) := of_decide_eq_true (by first | (with_reducible assumption) | assumption)
      have q429 : x3_1 < (l0.length : Int) := of_decide_eq_true (by first | (with_reducible assumption) | assumption)
      obtain ⟨ad429, e429, hx429_0, hx429_1⟩ := at_T87 HR0.out x3_1 p429 q429
      cases e429
      replace p429 := eq_true p429
      replace q429 := eq_true q429
      go_wp2_with (first | ((with_reducible refine gate_callee (f := 46) rfl ?_); refine goesL_ (some 15) rfl rfl Tryd.func46 (by kernel_rfl) rfl #[.int .i64 ((rd_T87 l0 x3_1).f0), .int .i64 0, .int .i64 9] rfl (by (try simp only [List.map_toArray, List.map_cons, List.map_nil]); first | done | rfl | (simp only [List.length_drop, List.length_take]; rfl)) ?_; (with_reducible refine (spec_l1In.calls ((rd_T87 l0 x3_1).f0) 0 9 true _ A4.out).mono ?_); rintro e w' ⟨rfl, ⟨nd, rfl⟩⟩; refine ⟨_, rfl, ?_⟩))
      go_roundg k1
      case measure => have := HK1.out; omega
      case rel => exact ⟨(wrap64 (x3_1 + 1)), (by first | rfl | (simp; done) | (simp [*]; done)), H', ⟨by have := HK1.out; omega⟩, by repeat (first | exact Drawn0.refl _ | apply Drawn0.step)⟩
     ·replace c5 := Bool.eq_false_iff.mpr c5
      subst c5
      have H1 : (some false) = some r := by rw [if_neg (show ¬ (false = true) by decide)] at H; exact H
      clear H
      have H := H1
      clear H1
      obtain rfl := Option.some.inj H
      have p429 : 0 ≤ (x3_1 : Int) := of_decide_eq_true (by first | (with_reducible assumption) | assumption)
      have q429 : x3_1 < (l0.length : Int) := of_decide_eq_true (by first | (with_reducible assumption) | assumption)
      obtain ⟨ad429, e429, hx429_0, hx429_1⟩ := at_T87 HR0.out x3_1 p429 q429
      cases e429
      replace p429 := eq_true p429
      replace q429 := eq_true q429
      go_wp2_with (first | ((with_reducible refine gate_callee (f := 46) rfl ?_); refine goesL_ (some 15) rfl rfl Tryd.func46 (by kernel_rfl) rfl #[.int .i64 ((rd_T87 l0 x3_1).f0), .int .i64 0, .int .i64 9] rfl (by (try simp only [List.map_toArray, List.map_cons, List.map_nil]); first | done | rfl | (simp only [List.length_drop, List.length_take]; rfl)) ?_; (with_reducible refine (spec_l1In.calls ((rd_T87 l0 x3_1).f0) 0 9 false _ A4.out).mono ?_); rintro e w' ⟨rfl, ⟨nd, rfl⟩⟩; refine ⟨_, rfl, ?_⟩))
      go_ret
      exact ⟨by first | rfl | (simp; done) | (simp [*]; done), by repeat (first | exact Drawn0.refl _ | apply Drawn0.step)⟩
    ·rw [if_neg c3] at H
     exact absurd H (by simp)
   ·rw [if_neg c2] at H
    have c2b0 : decide (x3_1 < (l0.length : Int)) = false := decide_eq_false c2
    clear c2
    obtain rfl := Option.some.inj H
    go_wp2
    go_ret
    exact ⟨by first | rfl | (simp; done) | (simp [*]; done), by repeat (first | exact Drawn0.refl _ | apply Drawn0.step)⟩

end Go.Proofs.YtihmidnjiaomhaaDoor.G
