-- Printed by wip/gen.py of this session's repo, over the kit's print.py. Not trusted: Lean checks it.
import Derived.Test.YtihmidnjiaomhaaDoorSq
import Derived.Test.YtihmidnjiaomhaaDoorGx0
import Derived.Test.YtihmidnjiaomhaaDoorGx3
import Derived.Test.YtihmidnjiaomhaaDoorGx4
namespace Go.Proofs.YtihmidnjiaomhaaDoor.G
open Go.RowKit Go.Proofs.YtihmidnjiaomhaaDoorW.PrintWords Go.Proofs.YtihmidnjiaomhaaDoorW.PrintLast Go.Proofs.YtihmidnjiaomhaaDoorW.PrintMore Go.Proofs.YtihmidnjiaomhaaDoor.Sq
attribute [local go_sem] max2_int min2_int max_two min_two max_three min_three max_four min_four   -- for this text's walks alone
set_option linter.unusedVariables false
set_option linter.unusedSimpArgs false

/-! ### impl_OrderRun: function 18 -/
mutual
def impl_OrderRun.j0 : Nat → List Bool → List (S87) → Bool → Int → List (S42) → Option (List Bool × Int)
 | 0, _, _, _, _, _ => none
 | k + 1, x1, x2, x19, x386000, x386001 => if x19 = true then (some (([] : List Bool), 0)) else ((slices_Clone_bool_bool.f x1).bind fun t388 => (impl_OrderRun.l0 k x2 t388 x2 (x2.length : Int) 0 x386000 x386001))
def impl_OrderRun.l0 : Nat → List (S87) → List Bool → List (S87) → Int → Int → Int → List (S42) → Option (List Bool × Int)
 | 0, _, _, _, _, _, _, _ => none
 | k + 1, x2, x8, x22, x23, x24, x386000, x386001 => if x24 < x23 then (if 0 ≤ x24 then (if x24 < (x22.length : Int) then ((impl_Net_hasLine.f x386000 x386001 ((rd_T87 x22 x24).f0)).bind fun t393 => (if t393 = true then (if 0 ≤ ((rd_T87 x22 x24).f0) then (if ((rd_T87 x22 x24).f0) < (x8.length : Int) then (if ((rdOf false x8 ((rd_T87 x22 x24).f0)) == ((rd_T87 x22 x24).f1)) = true then (some (x8, x24)) else (impl_OrderRun.l0 k x2 (x8.set (((rd_T87 x22 x24).f0) : Int).toNat ((rd_T87 x22 x24).f1)) x22 x23 (wrap64 (x24 + 1)) x386000 x386001)) else (none)) else (none)) else (some (x8, x24)))) else (none)) else (none)) else (some (x8, (x2.length : Int)))
end
def impl_OrderRun.f (k : Nat) (a0_0 : Int) (l0_1 : List (S42)) (l1 : List Bool) (l2 : List (S87)) : Option (List Bool × Int) := (impl_StateValid.f k a0_0 l0_1 l1).bind fun t386 => (if t386 = true then ((impl_OrderValid.f k l2).bind fun t387 => (impl_OrderRun.j0 k l1 l2 (!t387) a0_0 l0_1)) else (impl_OrderRun.j0 k l1 l2 true a0_0 l0_1))
theorem impl_OrderRun.mono_l : ∀ k, (∀ y0 y1 y2 y3 y4, LeO (impl_OrderRun.j0 k y0 y1 y2 y3 y4) (impl_OrderRun.j0 (k + 1) y0 y1 y2 y3 y4)) ∧ (∀ y0 y1 y2 y3 y4 y5 y6, LeO (impl_OrderRun.l0 k y0 y1 y2 y3 y4 y5 y6) (impl_OrderRun.l0 (k + 1) y0 y1 y2 y3 y4 y5 y6))
 | 0 => ⟨fun _ _ _ _ _ r h => by simp [impl_OrderRun.j0] at h, fun _ _ _ _ _ _ _ r h => by simp [impl_OrderRun.l0] at h⟩
 | k + 1 => by
  obtain ⟨ih0, ih1⟩ := impl_OrderRun.mono_l k
  refine ⟨?_, ?_⟩
  ·intro y0 y1 y2 y3 y4
   unfold impl_OrderRun.j0
   repeat' first
   | (with_reducible exact ih0 _ _ _ _ _)
   | (with_reducible exact ih1 _ _ _ _ _ _ _)
   | (with_reducible exact impl_OrderValid.mono _ _)
   | (with_reducible exact impl_StateValid.mono _ _ _ _)
   | (with_reducible exact LeO.refl _)
   | (with_reducible exact LeO.none _)
   | (with_reducible refine LeO.ite ?_ ?_)
   | (with_reducible refine LeO.bind ?_ (fun _ => ?_))
   | exact ih0 _ _ _ _ _
   | exact ih1 _ _ _ _ _ _ _
   | exact impl_OrderValid.mono _ _
   | exact impl_StateValid.mono _ _ _ _
   | exact LeO.none _
   | refine LeO.ite ?_ ?_
   | refine LeO.bind ?_ (fun _ => ?_)
  ·intro y0 y1 y2 y3 y4 y5 y6
   unfold impl_OrderRun.l0
   repeat' first
   | (with_reducible exact ih0 _ _ _ _ _)
   | (with_reducible exact ih1 _ _ _ _ _ _ _)
   | (with_reducible exact impl_OrderValid.mono _ _)
   | (with_reducible exact impl_StateValid.mono _ _ _ _)
   | (with_reducible exact LeO.refl _)
   | (with_reducible exact LeO.none _)
   | (with_reducible refine LeO.ite ?_ ?_)
   | (with_reducible refine LeO.bind ?_ (fun _ => ?_))
   | exact ih0 _ _ _ _ _
   | exact ih1 _ _ _ _ _ _ _
   | exact impl_OrderValid.mono _ _
   | exact impl_StateValid.mono _ _ _ _
   | exact LeO.none _
   | refine LeO.ite ?_ ?_
   | refine LeO.bind ?_ (fun _ => ?_)
theorem impl_OrderRun.mono : ∀ a0 a1 a2 a3 k, LeO (impl_OrderRun.f k a0 a1 a2 a3) (impl_OrderRun.f (k + 1) a0 a1 a2 a3) := by
 intro a0 a1 a2 a3 k
 obtain ⟨ih0, ih1⟩ := impl_OrderRun.mono_l k
 unfold impl_OrderRun.f
 repeat' first
   | (with_reducible exact ih0 _ _ _ _ _)
   | (with_reducible exact ih1 _ _ _ _ _ _ _)
   | (with_reducible exact impl_OrderValid.mono _ _)
   | (with_reducible exact impl_StateValid.mono _ _ _ _)
   | (with_reducible exact LeO.refl _)
   | (with_reducible exact LeO.none _)
   | (with_reducible refine LeO.ite ?_ ?_)
   | (with_reducible refine LeO.bind ?_ (fun _ => ?_))
   | exact ih0 _ _ _ _ _
   | exact ih1 _ _ _ _ _ _ _
   | exact impl_OrderValid.mono _ _
   | exact impl_StateValid.mono _ _ _ _
   | exact LeO.none _
   | refine LeO.ite ?_ ?_
   | refine LeO.bind ?_ (fun _ => ?_)
def impl_OrderRun.T7 : Bool × List (List Nat × List Nat) := (true, [([], []), ([], []), ([1], [1]), ([0, 2], [0, 2]), ([3], [3]), ([4, 3], [4]), ([5], [5]), ([5], [5]), ([7, 5], [5, 7]), ([6, 8, 5], [5, 6, 8]), ([9, 5], [5, 9]), ([5], [5]), ([11, 5], [5, 11]), ([10, 12, 5], [5, 10, 12]), ([5, 13], [5, 13])])
def impl_OrderRun.B7 : List Nat := [0, 0, 2, 7, 15, 31, 63, 63, 191, 511, 1023, 63, 2111, 8191, 16383]
theorem impl_OrderRun.tab7 : rtab .any (opsOf Tryd.f18 7) = impl_OrderRun.T7 := by kernel_rfl
theorem impl_OrderRun.bits7 : waitsOk impl_OrderRun.T7.2 impl_OrderRun.B7 = true := by kernel_rfl
set_option maxHeartbeats 8000000 in
set_option maxRecDepth 100000 in
theorem impl_OrderRun.calls (k : Nat) (a0_0 : Int) (A0_1 : Option Addr) (c0_1 : Nat) (l0_1 : List (S42)) (A1 : Option Addr) (c1 : Nat) (l1 : List Bool) (A2 : Option Addr) (c2 : Nat) (l2 : List (S87)) (r1 : List Bool) (r2 : Int) (w : World) (hr0_1 : Kd.C k42 w A0_1 l0_1.length l0_1) (hc0_1 : l0_1.length ≤ c0_1) (hr1 : Kd.C Kd.bool w A1 l1.length l1) (hc1 : l1.length ≤ c1) (hr2 : Kd.C k87 w A2 l2.length l2) (hc2 : l2.length ≤ c2) (h : impl_OrderRun.f k a0_0 l0_1 l1 l2 = some (r1, r2)) :
  Calls Tryd.prog 18 #[.agg #[.int .i64 a0_0, .slice A0_1 l0_1.length c0_1], .slice A1 l1.length c1, .slice A2 l2.length c2] w fun e w' => ∃ v0_ : Value, e = .returned (.tuple #[v0_, .int .i64 r2]) ∧ Kd.R Kd.bool 4 w' w.heap.size (fun _ => True) v0_ r1 ∧ Below w.heap.size w w' := by
 have hu40 := Tryd.underlying40
 have hu87 := Tryd.underlying87
 have HR0_1 := Aside0.mk hr0_1
 have HC0_1 := Aside0.mk hc0_1
 clear hr0_1 hc0_1
 have HR1 := Aside0.mk hr1
 have HC1 := Aside0.mk hc1
 clear hr1 hc1
 have HR2 := Aside0.mk hr2
 have HC2 := Aside0.mk hc2
 clear hr2 hc2
 have HB := Aside0.mk (Below.refl w.heap.size w)
 have H : ((impl_StateValid.f k a0_0 l0_1 l1).bind fun t386 => (if t386 = true then ((impl_OrderValid.f k l2).bind fun t387 => (impl_OrderRun.j0 k l1 l2 (!t387) a0_0 l0_1)) else (impl_OrderRun.j0 k l1 l2 true a0_0 l0_1))) = some (r1, r2) := h
 clear h
 have HC4 := Aside0.mk H
 clear H
 go_enter Tryd.func18, Tryd.ntmps18
 go_upto_region 1 with (first | ((with_reducible refine gate_dst (N := 3) rfl ?_); refine box_event ?hg (N := 3) ?hd (cs := #[.int .i64 a0_0, .slice A0_1 l0_1.length c0_1]) (t := 40) ?hr ?_; (case hd => rfl); (case hg => rfl); (case hr => first | (go_simp; done) | (go_simp; rfl)); intro gb385 hg w5 hbox hb; have n0_ := Aside0.mk (below_step bw hb); have n1_ := Aside0.mk (hbox); have n2_ := Aside0.mk ((by rw [hg]; exact (below_size bw) : w.heap.size ≤ gb385)); have n3_ := Aside0.mk ((by rw [hg]; exact (below_size bw) : w.heap.size ≤ gb385)); clear HB; have HB := n0_; have BK385 := n1_; have GW385 := n2_; have GE385 := n3_; clear n0_ n1_ n2_ n3_; clear hb hbox hg))
 (try simp only [Act.put, List.setIfInBounds_toArray, List.set_cons_zero, List.set_cons_succ])
 go_cut [19] (fun v19 wc => ∃ (kq : Nat) (x19_3 : Bool), v19 = .bool x19_3 ∧ Aside0 (impl_OrderRun.j0 kq l1 l2 x19_3 a0_0 l0_1 = some (r1, r2)) ∧ Aside0 (kq ≤ k) ∧ Aside0 (wc.heap[gb385]? = some (.cells #[.int .i64 a0_0, (.slice A0_1 l0_1.length c0_1)] 40 (0, 0))) ∧ Aside0 (Below w.heap.size w wc))
 case first =>
  have H := HC4.out
  clear HC4
  replace H := Option.bind_eq_some_iff.mp H
  obtain ⟨t386, A60, H⟩ := H
  replace H : (if t386 = true then ((impl_OrderValid.f k l2).bind fun t387 => (impl_OrderRun.j0 k l1 l2 (!t387) a0_0 l0_1)) else (impl_OrderRun.j0 k l1 l2 true a0_0 l0_1)) = some (r1, r2) := H
  have A6 := Aside0.mk A60
  clear A60
  by_cases c7 : t386 = true
  ·subst c7
   have H1 : ((impl_OrderValid.f k l2).bind fun t387 => (impl_OrderRun.j0 k l1 l2 (!t387) a0_0 l0_1)) = some (r1, r2) := by rw [if_pos rfl] at H; exact H
   clear H
   have H := H1
   clear H1
   replace H := Option.bind_eq_some_iff.mp H
   obtain ⟨t387, A80, H⟩ := H
   replace H : (impl_OrderRun.j0 k l1 l2 (!t387) a0_0 l0_1) = some (r1, r2) := H
   have A8 := Aside0.mk A80
   clear A80
   have H' := Aside0.mk H
   clear H
   have hcz9_0 : w5.cell? ⟨gb385, 0, none⟩ = some (.int .i64 a0_0) := (blk_cell BK385.out 0).trans rfl
   have hcz9_1 : w5.cell? ⟨gb385, 1, none⟩ = some (.slice A0_1 l0_1.length c0_1) := (blk_cell BK385.out 1).trans rfl
   have hfz9_0 := blk_frozen BK385.out 0
   have hfz9_1 := blk_frozen BK385.out 1
   go_wp2_with (first | ((with_reducible refine gate_callee (f := 54) rfl ?_); refine goesL_ (some 13) rfl rfl Tryd.func54 (by kernel_rfl) rfl #[.agg #[.int .i64 a0_0, .slice A0_1 l0_1.length c0_1], .slice A1 l1.length c1] rfl (by (try simp only [List.map_toArray, List.map_cons, List.map_nil]); first | done | rfl | (simp only [List.length_drop, List.length_take]; rfl)) ?_; (with_reducible refine (impl_StateValid.calls k a0_0 _ _ l0_1 _ _ l1 true _ ?side1 ?side2 ?side3 ?side4 A6.out).mono ?_); (case side1 => exact cb HR0_1); (case side2 => exact HC0_1.out); (case side3 => exact cb HR1); (case side4 => exact HC1.out); rintro e w10 ⟨rfl, hb⟩; refine ⟨_, rfl, ?_⟩; have n0_ := bkB BK385 hb; have n1_ := Aside0.mk (below_step bw hb); clear BK385 HB; have BK385 := n0_; have HB := n1_; clear n0_ n1_; (try clear hb); (try clear hb2); (try clear hk); (try clear hi)) | (go_at_call 36; (with_reducible refine (impl_OrderValid.calls k _ _ l2 t387 _ ?side1 ?side2 A8.out).mono ?_); (case side1 => exact cb HR2); (case side2 => exact HC2.out); rintro e w11 ⟨rfl, hb⟩; have n0_ := bkB BK385 hb; have n1_ := Aside0.mk (below_step bw hb); clear BK385 HB; have BK385 := n0_; have HB := n1_; clear n0_ n1_; (try clear hb); (try clear hb2); (try clear hk); (try clear hi)))
   go_meet
   case rel => exact ⟨_, (!t387), (by first | rfl | (simp; done) | (simp [*]; done)), H', ⟨by first | omega | exact Nat.le_refl _⟩, ⟨bk BK385⟩, ⟨bw⟩⟩
  ·replace c7 := Bool.eq_false_iff.mpr c7
   subst c7
   have H1 : (impl_OrderRun.j0 k l1 l2 true a0_0 l0_1) = some (r1, r2) := by rw [if_neg (show ¬ (false = true) by decide)] at H; exact H
   clear H
   have H := H1
   clear H1
   have H' := Aside0.mk H
   clear H
   have hcz12_0 : w5.cell? ⟨gb385, 0, none⟩ = some (.int .i64 a0_0) := (blk_cell BK385.out 0).trans rfl
   have hcz12_1 : w5.cell? ⟨gb385, 1, none⟩ = some (.slice A0_1 l0_1.length c0_1) := (blk_cell BK385.out 1).trans rfl
   have hfz12_0 := blk_frozen BK385.out 0
   have hfz12_1 := blk_frozen BK385.out 1
   go_wp2_with (first | ((with_reducible refine gate_callee (f := 54) rfl ?_); refine goesL_ (some 13) rfl rfl Tryd.func54 (by kernel_rfl) rfl #[.agg #[.int .i64 a0_0, .slice A0_1 l0_1.length c0_1], .slice A1 l1.length c1] rfl (by (try simp only [List.map_toArray, List.map_cons, List.map_nil]); first | done | rfl | (simp only [List.length_drop, List.length_take]; rfl)) ?_; (with_reducible refine (impl_StateValid.calls k a0_0 _ _ l0_1 _ _ l1 false _ ?side1 ?side2 ?side3 ?side4 A6.out).mono ?_); (case side1 => exact cb HR0_1); (case side2 => exact HC0_1.out); (case side3 => exact cb HR1); (case side4 => exact HC1.out); rintro e w13 ⟨rfl, hb⟩; refine ⟨_, rfl, ?_⟩; have n0_ := bkB BK385 hb; have n1_ := Aside0.mk (below_step bw hb); clear BK385 HB; have BK385 := n0_; have HB := n1_; clear n0_ n1_; (try clear hb); (try clear hb2); (try clear hk); (try clear hi)))
   go_meet
   case rel => exact ⟨_, (true), (by first | rfl | (simp; done) | (simp [*]; done)), H', ⟨by first | omega | exact Nat.le_refl _⟩, ⟨bk BK385⟩, ⟨bw⟩⟩
 case rest =>
  clear HC4
  try clear c1
  try clear c2
  try clear p2
  try clear c5
  try clear c7
  try clear hcz12_0
  try clear hcz12_1
  try clear hcz9_0
  try clear hcz9_1
  try clear hfz12_0
  try clear hfz12_1
  try clear hfz9_0
  try clear hfz9_1
  obtain ⟨kq, x19_3, rfl, HA, HJ3, BK385, HB⟩ := hcut
  cases kq with
  | zero => exact absurd HA.out (by simp [impl_OrderRun.j0])
  | succ kj3 =>
   have H := HA.out
   clear HA
   simp only [impl_OrderRun.j0] at H
   by_cases c14 : x19_3 = true
   ·subst c14
    have H1 : (some (([] : List Bool), 0)) = some (r1, r2) := by rw [if_pos rfl] at H; exact H
    clear H
    have H := H1
    clear H1
    simp only [Option.some.injEq, Prod.mk.injEq] at H
    obtain ⟨rfl, rfl⟩ := H
    go_wp2
    go_ret2
    exact ⟨_, by first | rfl | (simp [errW_none, errW_some] <;> rfl) | (simp [*, errW_none, errW_some] <;> rfl), by first | exact Kd.R_nil _ _ _ _ _ | exact Kd.N_nil _ _ _ _ _ | exact Kd.V_nil _ _ _ _ _ | exact Kd.Q_nil _ _ _ _ _ | exact Kd.S_nil _ _ _ _ _, bw⟩
   ·replace c14 := Bool.eq_false_iff.mpr c14
    subst c14
    have H1 : ((slices_Clone_bool_bool.f l1).bind fun t388 => (impl_OrderRun.l0 kj3 l2 t388 l2 (l2.length : Int) 0 a0_0 l0_1)) = some (r1, r2) := by rw [if_neg (show ¬ (false = true) by decide)] at H; exact H
    clear H
    have H := H1
    clear H1
    replace H := Option.bind_eq_some_iff.mp H
    obtain ⟨t388, A150, H⟩ := H
    replace H : (impl_OrderRun.l0 kj3 l2 t388 l2 (l2.length : Int) 0 a0_0 l0_1) = some (r1, r2) := H
    have A15 := Aside0.mk A150
    clear A150
    have H' := Aside0.mk H
    clear H
    go_wp2_with (first | ((with_reducible refine gate_callee (f := 55) rfl ?_); refine goesL_ (some 21) rfl rfl Tryd.func55 (by kernel_rfl) rfl #[.slice A1 l1.length c1] rfl (by (try simp only [List.map_toArray, List.map_cons, List.map_nil]); first | done | rfl | (simp only [List.length_drop, List.length_take]; rfl)) ?_; (with_reducible refine (slices_Clone_bool_bool.calls _ _ l1 t388 _ ?side1 ?side2 A15.out).mono ?_); (case side1 => exact cb HR1); (case side2 => exact HC1.out); rintro e w16 ⟨v389, rfl, ho0, hb⟩; refine ⟨_, rfl, ?_⟩; have n0_ := Aside0.mk (Kd.R_lower ho0 (below_size bw)); have n1_ := bkB BK385 hb; have n2_ := Aside0.mk (below_step bw hb); clear BK385 HB; have HO390 := n0_; have BK385 := n1_; have HB := n2_; clear n0_ n1_ n2_; (try clear hb); (try clear hb2); (try clear hk); (try clear hi); (try clear ho0)))
    go_loopg [24] kj3 (fun kq v24 w' => ∃ (x8_2 : List Bool) (x24_2 : Int), v24 = .int .i64 x24_2 ∧ Aside0 (impl_OrderRun.l0 kq l2 x8_2 l2 (l2.length : Int) x24_2 a0_0 l0_1 = some (r1, r2)) ∧ Aside0 (kq ≤ kj3) ∧ Aside0 (Kd.R Kd.bool 4 w' w.heap.size (fun _ => True) v389 x8_2) ∧ Aside0 (w'.heap[gb385]? = some (.cells #[.int .i64 a0_0, (.slice A0_1 l0_1.length c0_1)] 40 (0, 0))) ∧ Aside0 (Below w.heap.size w w'))
    case atStart => exact ⟨(t388), (0), (by first | rfl | (simp; done) | (simp [*]; done)), H', ⟨Nat.le_refl _⟩, ⟨rk HO390⟩, ⟨bk BK385⟩, ⟨bw⟩⟩
    case round =>
     clear H'
     try clear c1
     try clear c2
     try clear p2
     try clear c5
     try clear c7
     try clear c14
     try clear hcz12_0
     try clear hcz12_1
     try clear hcz9_0
     try clear hcz9_1
     try clear hfz12_0
     try clear hfz12_1
     try clear hfz9_0
     try clear hfz9_1
     try clear p2
     obtain ⟨x8_2, x24_2, rfl, HA, HK2, HO_8, BK385, HB⟩ := hrel
     cases gk with
     | zero => exact absurd HA.out (by simp [impl_OrderRun.l0])
     | succ k2 =>
      have H := HA.out
      clear HA
      simp only [impl_OrderRun.l0] at H
      by_cases c17 : x24_2 < (l2.length : Int)
      ·rw [if_pos c17] at H
       have c17b0 : decide (x24_2 < (l2.length : Int)) = true := decide_eq_true c17
       clear c17
       by_cases c18 : 0 ≤ x24_2
       ·rw [if_pos c18] at H
        have c18b0 : decide (0 ≤ x24_2) = true := decide_eq_true c18
        clear c18
        by_cases c19 : x24_2 < (l2.length : Int)
        ·rw [if_pos c19] at H
         have c19b0 : decide (x24_2 < (l2.length : Int)) = true := decide_eq_true c19
         clear c19
         replace H := Option.bind_eq_some_iff.mp H
         obtain ⟨t393, A200, H⟩ := H
         replace H : (if t393 = true then (if 0 ≤ ((rd_T87 l2 x24_2).f0) then (if ((rd_T87 l2 x24_2).f0) < (x8_2.length : Int) then (if ((rdOf false x8_2 ((rd_T87 l2 x24_2).f0)) == ((rd_T87 l2 x24_2).f1)) = true then (some (x8_2, x24_2)) else (impl_OrderRun.l0 k2 l2 (x8_2.set (((rd_T87 l2 x24_2).f0) : Int).toNat ((rd_T87 l2 x24_2).f1)) l2 (l2.length : Int) (wrap64 (x24_2 + 1)) a0_0 l0_1)) else (none)) else (none)) else (some (x8_2, x24_2))) = some (r1, r2) := H
         have A20 := Aside0.mk A200
         clear A200
         by_cases c21 : t393 = true
         ·subst c21
          have H1 : (if 0 ≤ ((rd_T87 l2 x24_2).f0) then (if ((rd_T87 l2 x24_2).f0) < (x8_2.length : Int) then (if ((rdOf false x8_2 ((rd_T87 l2 x24_2).f0)) == ((rd_T87 l2 x24_2).f1)) = true then (some (x8_2, x24_2)) else (impl_OrderRun.l0 k2 l2 (x8_2.set (((rd_T87 l2 x24_2).f0) : Int).toNat ((rd_T87 l2 x24_2).f1)) l2 (l2.length : Int) (wrap64 (x24_2 + 1)) a0_0 l0_1)) else (none)) else (none)) = some (r1, r2) := by rw [if_pos rfl] at H; exact H
          clear H
          have H := H1
          clear H1
          by_cases c22 : 0 ≤ ((rd_T87 l2 x24_2).f0)
          ·rw [if_pos c22] at H
           have c22b0 : decide (0 ≤ ((rd_T87 l2 x24_2).f0)) = true := decide_eq_true c22
           clear c22
           by_cases c23 : ((rd_T87 l2 x24_2).f0) < (x8_2.length : Int)
           ·rw [if_pos c23] at H
            have c23b0 : decide (((rd_T87 l2 x24_2).f0) < (x8_2.length : Int)) = true := decide_eq_true c23
            clear c23
            by_cases c24 : ((rdOf false x8_2 ((rd_T87 l2 x24_2).f0)) == ((rd_T87 l2 x24_2).f1)) = true
            ·rw [if_pos c24] at H
             have c24b0 : ((rdOf false x8_2 ((rd_T87 l2 x24_2).f0)) == ((rd_T87 l2 x24_2).f1)) = true := c24
             (try (have c24b1 : decide ((rdOf false x8_2 ((rd_T87 l2 x24_2).f0)) = ((rd_T87 l2 x24_2).f1)) = true := by simpa using c24))
             (try (have c24b2 : ((rdOf false x8_2 ((rd_T87 l2 x24_2).f0)) == ((rd_T87 l2 x24_2).f1)) = true := by simpa using c24))
             clear c24
             simp only [Option.some.injEq, Prod.mk.injEq] at H
             obtain ⟨rfl, rfl⟩ := H
             have p391 : 0 ≤ (x24_2 : Int) := of_decide_eq_true (by first | (with_reducible assumption) | assumption)
             have q391 : x24_2 < (l2.length : Int) := of_decide_eq_true (by first | (with_reducible assumption) | assumption)
             obtain ⟨ad391, e391, hx391_0, hx391_1⟩ := at_T87 HR2.out x24_2 p391 q391
             cases e391
             replace hx391_0 := (HB.out.cell (World.block_lt_of_cell? w _ hx391_0)).trans hx391_0
             replace hx391_1 := (HB.out.cell (World.block_lt_of_cell? w _ hx391_1)).trans hx391_1
             replace p391 := eq_true p391
             replace q391 := eq_true q391
             try go_wp2_with (first | ((with_reducible refine gate_dst (N := 10) rfl ?_); refine box_event ?hg (N := 10) ?hd (cs := #[.int .i64 0, .bool false]) (t := 87) ?hr ?_; (case hd => rfl); (case hg => rfl); (case hr => first | (go_simp; done) | (go_simp; rfl)); intro gb392 hg w25 hbox hb; have n0_ := rB HO_8 hb; have n1_ := bkB BK385 hb; have n2_ := Aside0.mk (below_step bw hb); have n3_ := Aside0.mk (hbox); have n4_ := Aside0.mk ((by rw [hg]; exact (below_size bw) : w.heap.size ≤ gb392)); have n5_ := Aside0.mk ((by rw [hg]; exact (below_size bw) : w.heap.size ≤ gb392)); have n6_ := Aside0.mk ((by rw [hg]; exact Nat.ne_of_lt (blk_lt (g := gb385) (o := .cells #[.int .i64 a0_0, .slice A0_1 l0_1.length c0_1] 40 (0, 0)) (bk BK385)) : gb385 ≠ gb392)); have n7_ := Aside0.mk ((by rw [hg]; exact Nat.ne_of_gt (blk_lt (g := gb385) (o := .cells #[.int .i64 a0_0, .slice A0_1 l0_1.length c0_1] 40 (0, 0)) (bk BK385)) : gb392 ≠ gb385)); clear HO_8 BK385 HB; have HO_8 := n0_; have BK385 := n1_; have HB := n2_; have BK392 := n3_; have GW392 := n4_; have GE392 := n5_; have NB385_392 := n6_; have NB392_385 := n7_; clear n0_ n1_ n2_ n3_ n4_ n5_ n6_ n7_; clear hb hbox hg; have hnb26 := NB392_385.out; have hnc26 := NB385_392.out; have hcz27_0 : w25.cell? ⟨gb392, 0, none⟩ = some (.int .i64 0) := (blk_cell BK392.out 0).trans rfl; have hcz27_1 : w25.cell? ⟨gb392, 1, none⟩ = some (.bool false) := (blk_cell BK392.out 1).trans rfl; have hfz27_0 := blk_frozen BK392.out 0; have hfz27_1 := blk_frozen BK392.out 1))
             have n0_ : Aside0 (Kd.R Kd.bool 4 ((w25.setCell ⟨gb392, 0, none⟩ (.int .i64 ((rd_T87 l2 x24_2).f0))).setCell ⟨gb392, 1, none⟩ (.bool ((rd_T87 l2 x24_2).f1))) w.heap.size (fun _ => True) v389 x8_2) := ⟨by (with_reducible repeat (first | apply Kd.R_alloc | apply Kd.R_drewN | apply Kd.R_drew)); exact Kd.R_mono (Kd.R_far (p := ⟨gb392, 1, none⟩) (Kd.R_far (p := ⟨gb392, 0, none⟩) (Kd.R_types HO_8.out BK392.out (by decide)) (fun _ hk => by first | exact hk.2 | grind) (.int .i64 ((rd_T87 l2 x24_2).f0))) (fun _ hk => by first | exact hk.2 | grind) (.bool ((rd_T87 l2 x24_2).f1))) (fun _ hk => trivial)⟩
             have n1_ : Aside0 (((w25.setCell ⟨gb392, 0, none⟩ (.int .i64 ((rd_T87 l2 x24_2).f0))).setCell ⟨gb392, 1, none⟩ (.bool ((rd_T87 l2 x24_2).f1))).heap[gb385]? = some (.cells #[.int .i64 a0_0, .slice A0_1 l0_1.length c0_1] 40 (0, 0))) := ⟨by (with_reducible repeat (first | refine blk_drewN ?_ _ | refine blk_drew ?_ | refine blk_alloc ?_ _)); refine blk_far ?_ NB385_392.out _; (with_reducible repeat (first | refine blk_drewN ?_ _ | refine blk_drew ?_ | refine blk_alloc ?_ _)); refine blk_far ?_ NB385_392.out _; (with_reducible repeat (first | refine blk_drewN ?_ _ | refine blk_drew ?_ | refine blk_alloc ?_ _)); exact BK385.out⟩
             have n2_ : Aside0 (((w25.setCell ⟨gb392, 0, none⟩ (.int .i64 ((rd_T87 l2 x24_2).f0))).setCell ⟨gb392, 1, none⟩ (.bool ((rd_T87 l2 x24_2).f1))).heap[gb392]? = some (.cells #[.int .i64 ((rd_T87 l2 x24_2).f0), .bool ((rd_T87 l2 x24_2).f1)] 87 (0, 0))) := ⟨by (with_reducible repeat (first | refine blk_drewN ?_ _ | refine blk_drew ?_ | refine blk_alloc ?_ _)); refine blk_put (cs := #[.int .i64 ((rd_T87 l2 x24_2).f0), .bool false]) ?_ 1 _ rfl; (with_reducible repeat (first | refine blk_drewN ?_ _ | refine blk_drew ?_ | refine blk_alloc ?_ _)); refine blk_put (cs := #[.int .i64 0, .bool false]) ?_ 0 _ rfl; (with_reducible repeat (first | refine blk_drewN ?_ _ | refine blk_drew ?_ | refine blk_alloc ?_ _)); exact BK392.out⟩
             have n3_ : Aside0 (Below w.heap.size w ((w25.setCell ⟨gb392, 0, none⟩ (.int .i64 ((rd_T87 l2 x24_2).f0))).setCell ⟨gb392, 1, none⟩ (.bool ((rd_T87 l2 x24_2).f1)))) := ⟨bw⟩
             (try clear HO_8)
             (try clear BK385)
             (try clear BK392)
             (try clear HB)
             generalize ((w25.setCell ⟨gb392, 0, none⟩ (.int .i64 ((rd_T87 l2 x24_2).f0))).setCell ⟨gb392, 1, none⟩ (.bool ((rd_T87 l2 x24_2).f1))) = w28 at n0_ n1_ n2_ n3_ ⊢
             have HO_8 := n0_
             have BK385 := n1_
             have BK392 := n2_
             have HB := n3_
             clear n0_ n1_ n2_ n3_
             have n0_ := Aside0.mk (Kd.R_drew HO_8.out)
             have n1_ := Aside0.mk (blk_drew BK385.out)
             have n2_ := Aside0.mk (blk_drew BK392.out)
             have n3_ := Aside0.mk (below_drew1 HB.out)
             clear HO_8
             clear BK385
             clear BK392
             clear HB
             have HO_8 := n0_
             have BK385 := n1_
             have BK392 := n2_
             have HB := n3_
             clear n0_ n1_ n2_ n3_
             have p394 : 0 ≤ (((rd_T87 l2 x24_2).f0) : Int) := of_decide_eq_true (by first | (with_reducible assumption) | assumption)
             have q394 : ((rd_T87 l2 x24_2).f0) < (x8_2.length : Int) := of_decide_eq_true (by first | (with_reducible assumption) | assumption)
             (try (obtain ⟨Aoz_, coz_, ez_⟩ := Kd.R_slice HO_8.out; subst ez_))
             obtain ⟨ad394, e394, hx394_0⟩ := Kd.at_bool (Kd.R_reads' HO_8.out).2.2 ((rd_T87 l2 x24_2).f0) p394 q394
             cases e394
             replace p394 := eq_true p394
             replace q394 := eq_true q394
             refine start_ (n := 15) (S := fun w' => w'.cell? ⟨gb385, 0, none⟩ = some (.int .i64 a0_0) ∧ w'.cell? ⟨gb385, 1, none⟩ = some (.slice A0_1 l0_1.length c0_1) ∧ w'.cell? ⟨gb392, 0, none⟩ = some (.int .i64 ((rd_T87 l2 x24_2).f0)) ∧ w'.cell? ⟨gb392, 1, none⟩ = some (.bool ((rd_T87 l2 x24_2).f1)) ∧ w'.cell? (ad394.add (((rd_T87 l2 x24_2).f0)).toNat) = some (.bool (rdOf false x8_2 ((rd_T87 l2 x24_2).f0)))) (ds := []) (bz 15 0) (by kernel_rfl) rfl rfl ⟨(blk_cell BK385.out 0).trans rfl, (blk_cell BK385.out 1).trans rfl, (blk_cell BK392.out 0).trans rfl, (blk_cell BK392.out 1).trans rfl, hx394_0⟩ (fun hHeld => ?_); refine with_tabW impl_OrderRun.tab7 impl_OrderRun.bits7 (fun HT_ HW_ => ?_)
             generalize w28.drew = w29 at HO_8 BK385 BK392 HB hx394_0 hHeld ⊢
             refine pure_ (i := 1) (N := some 30) (v := ?_) (a' := ?_) (bz 15 2) rfl rfl (any_of HT_.out (by kernel_rfl)) (fun _ _ _ h => h) (Or.inl ⟨by rfl, ?_⟩) ?_ ?_
             rotate_left
             ·intro w'
              go_simp
              with_reducible rfl
             rotate_left
             ·simp only [Act.put, List.setIfInBounds_toArray, List.set_cons_zero, List.set_cons_succ, i64_w, i32_w]
              rfl
             refine take_ (i := 0) (N := some 29) (v := ?_) (a' := ?_) (bz 15 3) rfl rfl (take_ofW HT_.out HW_.out (by kernel_rfl)) (fun _ _ _ h => h) (Or.inl ⟨by rfl, ?_⟩) hHeld ?_ ?_
             rotate_left
             ·rintro w' ⟨s0, s1, s2, s3, s4⟩
              go_simp
              with_reducible rfl
             rotate_left
             ·simp only [Act.put, List.setIfInBounds_toArray, List.set_cons_zero, List.set_cons_succ, i64_w, i32_w]
              rfl
             refine take_ (i := 2) (N := some 31) (v := ?_) (a' := ?_) (bz 15 7) rfl rfl (take_ofW HT_.out HW_.out (by kernel_rfl)) (fun _ _ _ h => h) (Or.inl ⟨by rfl, ?_⟩) hHeld ?_ ?_
             rotate_left
             ·rintro w' ⟨s0, s1, s2, s3, s4⟩
              go_simp
              with_reducible rfl
             rotate_left
             ·simp only [Act.put, List.setIfInBounds_toArray, List.set_cons_zero, List.set_cons_succ, i64_w, i32_w]
              rfl
             refine one_ (i := 3) (N := some 32) (bz 15 15) rfl rfl (one_of HT_.out (by kernel_rfl)) (by decide) (fun K hK => ?_)
             refine goes_ Tryd.func56 (by kernel_rfl) rfl #[.agg #[.int .i64 a0_0, .slice A0_1 l0_1.length c0_1], .int .i64 ((rd_T87 l2 x24_2).f0)] (by rfl) rfl rfl (by (try simp only [List.map_toArray, List.map_cons, List.map_nil]); first | done | rfl | (simp only [List.length_drop, List.length_take]; rfl)) ?_
             with_reducible refine (impl_Net_hasLine.calls a0_0 _ _ l0_1 ((rd_T87 l2 x24_2).f0) true _ ?side1 ?side2 A20.out).mono ?_
             (case side1 => exact cb HR0_1)
             (case side2 => exact HC0_1.out)
             rintro e w30 ⟨rfl, hb⟩
             have HS4_ := (hb.cell (World.block_lt_of_cell? _ _ (hHeld.2.2.2.2))).trans (hHeld.2.2.2.2)
             refine ⟨_, rfl, ?_⟩
             have n0_ := rB HO_8 hb
             have n1_ := bkB BK385 hb
             have n2_ := bkB BK392 hb
             have n3_ := Aside0.mk (below_step bw hb)
             clear HO_8
             clear BK385
             clear BK392
             clear HB
             have HO_8 := n0_
             have BK385 := n1_
             have BK392 := n2_
             have HB := n3_
             clear n0_ n1_ n2_ n3_
             (try clear hb)
             (try clear hb2)
             (try clear hk)
             (try clear hi)
             obtain ⟨Ao31, co31, eo31⟩ := Kd.R_slice HO_8.out
             (first | subst eo31 | (injection eo31 with f1_ f2_ f3_; have f4_ := f1_.symm; have f5_ := f3_.symm; clear f1_ f2_ f3_; subst f4_; subst f5_))
             refine hK.out _ _ ⟨(blk_cell BK385.out 0).trans rfl, (blk_cell BK385.out 1).trans rfl, (blk_cell BK392.out 0).trans rfl, (blk_cell BK392.out 1).trans rfl, HS4_⟩ (fun hHeld => ?_)
             clear hK K
             refine norm_ (a' := ?_) ?_ ?_
             rotate_left
             ·show Act.put _ (some 32) _ = _
              simp only [Act.put, List.setIfInBounds_toArray, List.set_cons_zero, List.set_cons_succ, i64_w, i32_w]
              rfl
             refine pure_ (i := 4) (N := some 33) (v := ?_) (a' := ?_) (bz 15 31) rfl rfl (any_of HT_.out (by kernel_rfl)) (fun _ _ _ h => h) (Or.inl ⟨by rfl, ?_⟩) ?_ ?_
             rotate_left
             ·intro w'
              go_simp
              with_reducible rfl
             rotate_left
             ·simp only [Act.put, List.setIfInBounds_toArray, List.set_cons_zero, List.set_cons_succ, i64_w, i32_w]
              rfl
             refine pure_ (i := 5) (N := some 34) (v := ?_) (a' := ?_) (bz 15 63) rfl rfl (any_of HT_.out (by kernel_rfl)) (fun _ _ _ h => h) (Or.inl ⟨by rfl, ?_⟩) ?_ ?_
             rotate_left
             ·intro w'
              go_simp
              with_reducible rfl
             rotate_left
             ·simp only [Act.put, List.setIfInBounds_toArray, List.set_cons_zero, List.set_cons_succ, i64_w, i32_w]
              rfl
             refine pure_ (i := 6) (N := some 35) (v := ?_) (a' := ?_) (bz 15 127) rfl rfl (any_of HT_.out (by kernel_rfl)) (fun _ _ _ h => h) (Or.inl ⟨by rfl, ?_⟩) ?_ ?_
             rotate_left
             ·intro w'
              go_simp
              with_reducible rfl
             rotate_left
             ·simp only [Act.put, List.setIfInBounds_toArray, List.set_cons_zero, List.set_cons_succ, i64_w, i32_w]
              rfl
             refine pure_ (i := 7) (N := some 36) (v := ?_) (a' := ?_) (bz 15 255) rfl rfl (any_of HT_.out (by kernel_rfl)) (fun _ _ _ h => h) (Or.inl ⟨by rfl, ?_⟩) ?_ ?_
             rotate_left
             ·intro w'
              go_simp
              with_reducible rfl
             rotate_left
             ·simp only [Act.put, List.setIfInBounds_toArray, List.set_cons_zero, List.set_cons_succ, i64_w, i32_w]
              rfl
             refine pure_ (i := 11) (N := some 40) (v := ?_) (a' := ?_) (bz 15 2303) rfl rfl (any_of HT_.out (by kernel_rfl)) (fun _ _ _ h => h) (Or.inl ⟨by rfl, ?_⟩) ?_ ?_
             rotate_left
             ·intro w'
              go_simp
              with_reducible rfl
             rotate_left
             ·simp only [Act.put, List.setIfInBounds_toArray, List.set_cons_zero, List.set_cons_succ, i64_w, i32_w]
              rfl
             refine take_ (i := 8) (N := some 37) (v := ?_) (a' := ?_) (bz 15 2559) rfl rfl (take_ofW HT_.out HW_.out (by kernel_rfl)) (fun _ _ _ h => h) (Or.inl ⟨by rfl, ?_⟩) hHeld ?_ ?_
             rotate_left
             ·rintro w' ⟨s0, s1, s2, s3, s4⟩
              go_simp
              with_reducible rfl
             rotate_left
             ·simp only [Act.put, List.setIfInBounds_toArray, List.set_cons_zero, List.set_cons_succ, i64_w, i32_w]
              rfl
             refine pure_ (i := 9) (N := some 38) (v := ?_) (a' := ?_) (bz 15 3071) rfl rfl (any_of HT_.out (by kernel_rfl)) (fun _ _ _ h => h) (Or.inl ⟨by rfl, ?_⟩) ?_ ?_
             rotate_left
             ·intro w'
              go_simp
              with_reducible rfl
             rotate_left
             ·simp only [Act.put, List.setIfInBounds_toArray, List.set_cons_zero, List.set_cons_succ, i64_w, i32_w]
              rfl
             refine take_ (i := 10) (N := some 39) (v := ?_) (a' := ?_) (bz 15 4095) rfl rfl (take_ofW HT_.out HW_.out (by kernel_rfl)) (fun _ _ _ h => h) (Or.inl ⟨by rfl, ?_⟩) hHeld ?_ ?_
             rotate_left
             ·rintro w' ⟨s0, s1, s2, s3, s4⟩
              go_simp
              with_reducible rfl
             rotate_left
             ·simp only [Act.put, List.setIfInBounds_toArray, List.set_cons_zero, List.set_cons_succ, i64_w, i32_w]
              rfl
             refine take_ (i := 12) (N := some 41) (v := ?_) (a' := ?_) (bz 15 8191) rfl rfl (take_ofW HT_.out HW_.out (by kernel_rfl)) (fun _ _ _ h => h) (Or.inl ⟨by rfl, ?_⟩) hHeld ?_ ?_
             rotate_left
             ·rintro w' ⟨s0, s1, s2, s3, s4⟩
              go_simp
              with_reducible rfl
             rotate_left
             ·simp only [Act.put, List.setIfInBounds_toArray, List.set_cons_zero, List.set_cons_succ, i64_w, i32_w]
              rfl
             refine pure_ (i := 13) (N := some 42) (v := ?_) (a' := ?_) (bz 15 16383) rfl rfl (any_of HT_.out (by kernel_rfl)) (fun _ _ _ h => h) (Or.inl ⟨by rfl, ?_⟩) ?_ ?_
             rotate_left
             ·intro w'
              go_simp
              with_reducible rfl
             rotate_left
             ·simp only [Act.put, List.setIfInBounds_toArray, List.set_cons_zero, List.set_cons_succ, i64_w, i32_w]
              rfl
             refine pure_ (i := 14) (N := some 43) (v := ?_) (a' := ?_) (bz 15 32767) rfl rfl (any_of HT_.out (by kernel_rfl)) (fun _ _ _ h => h) (Or.inl ⟨by rfl, ?_⟩) ?_ ?_
             rotate_left
             ·intro w'
              go_simp
              with_reducible rfl
             rotate_left
             ·simp only [Act.put, List.setIfInBounds_toArray, List.set_cons_zero, List.set_cons_succ, i64_w, i32_w]
              rfl
             refine done_ (done_of HT_.out (by kernel_rfl)) ?_
             try go_wp2
             go_ret2
             exact ⟨_, by first | rfl | (simp [errW_none, errW_some] <;> rfl) | (simp [*, errW_none, errW_some] <;> rfl), rk HO_8, bw⟩
            ·rw [if_neg c24] at H
             have c24b0 : ((rdOf false x8_2 ((rd_T87 l2 x24_2).f0)) == ((rd_T87 l2 x24_2).f1)) = false := by simpa using c24
             (try (have c24b1 : decide ((rdOf false x8_2 ((rd_T87 l2 x24_2).f0)) = ((rd_T87 l2 x24_2).f1)) = false := by simpa using c24))
             (try (have c24b2 : ((rdOf false x8_2 ((rd_T87 l2 x24_2).f0)) == ((rd_T87 l2 x24_2).f1)) = false := by simpa using c24))
             (try (have c24b3 : ¬ ((rdOf false x8_2 ((rd_T87 l2 x24_2).f0)) = ((rd_T87 l2 x24_2).f1)) := by simpa using c24))
             clear c24
             obtain ⟨y395, hy395⟩ : ∃ y_ : List Bool, y_ = (x8_2.set (((rd_T87 l2 x24_2).f0) : Int).toNat ((rd_T87 l2 x24_2).f1)) := ⟨_, rfl⟩
             replace H : (impl_OrderRun.l0 k2 l2 y395 l2 (l2.length : Int) (wrap64 (x24_2 + 1)) a0_0 l0_1) = some (r1, r2) := by first | (rw [hy395]; with_reducible exact H) | (have H2_ := (Option.bind_some _ _).symm.trans H; rw [hy395]; with_reducible exact H2_) | (have H2_ := (Option.bind_some _ _).symm.trans H; with_reducible exact H2_) | with_reducible exact H | (rw [hy395]; exact H) | exact H
             have Ny395 := Aside0.mk hy395
             clear hy395
             have H' := Aside0.mk H
             clear H
             have p391 : 0 ≤ (x24_2 : Int) := of_decide_eq_true (by first | (with_reducible assumption) | assumption)
             have q391 : x24_2 < (l2.length : Int) := of_decide_eq_true (by first | (with_reducible assumption) | assumption)
             obtain ⟨ad391, e391, hx391_0, hx391_1⟩ := at_T87 HR2.out x24_2 p391 q391
             cases e391
             replace hx391_0 := (HB.out.cell (World.block_lt_of_cell? w _ hx391_0)).trans hx391_0
             replace hx391_1 := (HB.out.cell (World.block_lt_of_cell? w _ hx391_1)).trans hx391_1
             replace p391 := eq_true p391
             replace q391 := eq_true q391
             try go_wp2_with (first | ((with_reducible refine gate_dst (N := 10) rfl ?_); refine box_event ?hg (N := 10) ?hd (cs := #[.int .i64 0, .bool false]) (t := 87) ?hr ?_; (case hd => rfl); (case hg => rfl); (case hr => first | (go_simp; done) | (go_simp; rfl)); intro gb392 hg w33 hbox hb; have n0_ := rB HO_8 hb; have n1_ := bkB BK385 hb; have n2_ := Aside0.mk (below_step bw hb); have n3_ := Aside0.mk (hbox); have n4_ := Aside0.mk ((by rw [hg]; exact (below_size bw) : w.heap.size ≤ gb392)); have n5_ := Aside0.mk ((by rw [hg]; exact (below_size bw) : w.heap.size ≤ gb392)); have n6_ := Aside0.mk ((by rw [hg]; exact Nat.ne_of_lt (blk_lt (g := gb385) (o := .cells #[.int .i64 a0_0, .slice A0_1 l0_1.length c0_1] 40 (0, 0)) (bk BK385)) : gb385 ≠ gb392)); have n7_ := Aside0.mk ((by rw [hg]; exact Nat.ne_of_gt (blk_lt (g := gb385) (o := .cells #[.int .i64 a0_0, .slice A0_1 l0_1.length c0_1] 40 (0, 0)) (bk BK385)) : gb392 ≠ gb385)); clear HO_8 BK385 HB; have HO_8 := n0_; have BK385 := n1_; have HB := n2_; have BK392 := n3_; have GW392 := n4_; have GE392 := n5_; have NB385_392 := n6_; have NB392_385 := n7_; clear n0_ n1_ n2_ n3_ n4_ n5_ n6_ n7_; clear hb hbox hg; have hnb34 := NB392_385.out; have hnc34 := NB385_392.out; have hcz35_0 : w33.cell? ⟨gb392, 0, none⟩ = some (.int .i64 0) := (blk_cell BK392.out 0).trans rfl; have hcz35_1 : w33.cell? ⟨gb392, 1, none⟩ = some (.bool false) := (blk_cell BK392.out 1).trans rfl; have hfz35_0 := blk_frozen BK392.out 0; have hfz35_1 := blk_frozen BK392.out 1))
             have n0_ : Aside0 (Kd.R Kd.bool 4 ((w33.setCell ⟨gb392, 0, none⟩ (.int .i64 ((rd_T87 l2 x24_2).f0))).setCell ⟨gb392, 1, none⟩ (.bool ((rd_T87 l2 x24_2).f1))) w.heap.size (fun _ => True) v389 x8_2) := ⟨by (with_reducible repeat (first | apply Kd.R_alloc | apply Kd.R_drewN | apply Kd.R_drew)); exact Kd.R_mono (Kd.R_far (p := ⟨gb392, 1, none⟩) (Kd.R_far (p := ⟨gb392, 0, none⟩) (Kd.R_types HO_8.out BK392.out (by decide)) (fun _ hk => by first | exact hk.2 | grind) (.int .i64 ((rd_T87 l2 x24_2).f0))) (fun _ hk => by first | exact hk.2 | grind) (.bool ((rd_T87 l2 x24_2).f1))) (fun _ hk => trivial)⟩
             have n1_ : Aside0 (((w33.setCell ⟨gb392, 0, none⟩ (.int .i64 ((rd_T87 l2 x24_2).f0))).setCell ⟨gb392, 1, none⟩ (.bool ((rd_T87 l2 x24_2).f1))).heap[gb385]? = some (.cells #[.int .i64 a0_0, .slice A0_1 l0_1.length c0_1] 40 (0, 0))) := ⟨by (with_reducible repeat (first | refine blk_drewN ?_ _ | refine blk_drew ?_ | refine blk_alloc ?_ _)); refine blk_far ?_ NB385_392.out _; (with_reducible repeat (first | refine blk_drewN ?_ _ | refine blk_drew ?_ | refine blk_alloc ?_ _)); refine blk_far ?_ NB385_392.out _; (with_reducible repeat (first | refine blk_drewN ?_ _ | refine blk_drew ?_ | refine blk_alloc ?_ _)); exact BK385.out⟩
             have n2_ : Aside0 (((w33.setCell ⟨gb392, 0, none⟩ (.int .i64 ((rd_T87 l2 x24_2).f0))).setCell ⟨gb392, 1, none⟩ (.bool ((rd_T87 l2 x24_2).f1))).heap[gb392]? = some (.cells #[.int .i64 ((rd_T87 l2 x24_2).f0), .bool ((rd_T87 l2 x24_2).f1)] 87 (0, 0))) := ⟨by (with_reducible repeat (first | refine blk_drewN ?_ _ | refine blk_drew ?_ | refine blk_alloc ?_ _)); refine blk_put (cs := #[.int .i64 ((rd_T87 l2 x24_2).f0), .bool false]) ?_ 1 _ rfl; (with_reducible repeat (first | refine blk_drewN ?_ _ | refine blk_drew ?_ | refine blk_alloc ?_ _)); refine blk_put (cs := #[.int .i64 0, .bool false]) ?_ 0 _ rfl; (with_reducible repeat (first | refine blk_drewN ?_ _ | refine blk_drew ?_ | refine blk_alloc ?_ _)); exact BK392.out⟩
             have n3_ : Aside0 (Below w.heap.size w ((w33.setCell ⟨gb392, 0, none⟩ (.int .i64 ((rd_T87 l2 x24_2).f0))).setCell ⟨gb392, 1, none⟩ (.bool ((rd_T87 l2 x24_2).f1)))) := ⟨bw⟩
             (try clear HO_8)
             (try clear BK385)
             (try clear BK392)
             (try clear HB)
             generalize ((w33.setCell ⟨gb392, 0, none⟩ (.int .i64 ((rd_T87 l2 x24_2).f0))).setCell ⟨gb392, 1, none⟩ (.bool ((rd_T87 l2 x24_2).f1))) = w36 at n0_ n1_ n2_ n3_ ⊢
             have HO_8 := n0_
             have BK385 := n1_
             have BK392 := n2_
             have HB := n3_
             clear n0_ n1_ n2_ n3_
             have n0_ := Aside0.mk (Kd.R_drew HO_8.out)
             have n1_ := Aside0.mk (blk_drew BK385.out)
             have n2_ := Aside0.mk (blk_drew BK392.out)
             have n3_ := Aside0.mk (below_drew1 HB.out)
             clear HO_8
             clear BK385
             clear BK392
             clear HB
             have HO_8 := n0_
             have BK385 := n1_
             have BK392 := n2_
             have HB := n3_
             clear n0_ n1_ n2_ n3_
             have p394 : 0 ≤ (((rd_T87 l2 x24_2).f0) : Int) := of_decide_eq_true (by first | (with_reducible assumption) | assumption)
             have q394 : ((rd_T87 l2 x24_2).f0) < (x8_2.length : Int) := of_decide_eq_true (by first | (with_reducible assumption) | assumption)
             (try (obtain ⟨Aoz_, coz_, ez_⟩ := Kd.R_slice HO_8.out; subst ez_))
             obtain ⟨ad394, e394, hx394_0⟩ := Kd.at_bool (Kd.R_reads' HO_8.out).2.2 ((rd_T87 l2 x24_2).f0) p394 q394
             cases e394
             replace p394 := eq_true p394
             replace q394 := eq_true q394
             refine start_ (n := 15) (S := fun w' => w'.cell? ⟨gb385, 0, none⟩ = some (.int .i64 a0_0) ∧ w'.cell? ⟨gb385, 1, none⟩ = some (.slice A0_1 l0_1.length c0_1) ∧ w'.cell? ⟨gb392, 0, none⟩ = some (.int .i64 ((rd_T87 l2 x24_2).f0)) ∧ w'.cell? ⟨gb392, 1, none⟩ = some (.bool ((rd_T87 l2 x24_2).f1)) ∧ w'.cell? (ad394.add (((rd_T87 l2 x24_2).f0)).toNat) = some (.bool (rdOf false x8_2 ((rd_T87 l2 x24_2).f0)))) (ds := []) (bz 15 0) (by kernel_rfl) rfl rfl ⟨(blk_cell BK385.out 0).trans rfl, (blk_cell BK385.out 1).trans rfl, (blk_cell BK392.out 0).trans rfl, (blk_cell BK392.out 1).trans rfl, hx394_0⟩ (fun hHeld => ?_); refine with_tabW impl_OrderRun.tab7 impl_OrderRun.bits7 (fun HT_ HW_ => ?_)
             generalize w36.drew = w37 at HO_8 BK385 BK392 HB hx394_0 hHeld ⊢
             refine pure_ (i := 1) (N := some 30) (v := ?_) (a' := ?_) (bz 15 2) rfl rfl (any_of HT_.out (by kernel_rfl)) (fun _ _ _ h => h) (Or.inl ⟨by rfl, ?_⟩) ?_ ?_
             rotate_left
             ·intro w'
              go_simp
              with_reducible rfl
             rotate_left
             ·simp only [Act.put, List.setIfInBounds_toArray, List.set_cons_zero, List.set_cons_succ, i64_w, i32_w]
              rfl
             refine take_ (i := 0) (N := some 29) (v := ?_) (a' := ?_) (bz 15 3) rfl rfl (take_ofW HT_.out HW_.out (by kernel_rfl)) (fun _ _ _ h => h) (Or.inl ⟨by rfl, ?_⟩) hHeld ?_ ?_
             rotate_left
             ·rintro w' ⟨s0, s1, s2, s3, s4⟩
              go_simp
              with_reducible rfl
             rotate_left
             ·simp only [Act.put, List.setIfInBounds_toArray, List.set_cons_zero, List.set_cons_succ, i64_w, i32_w]
              rfl
             refine take_ (i := 2) (N := some 31) (v := ?_) (a' := ?_) (bz 15 7) rfl rfl (take_ofW HT_.out HW_.out (by kernel_rfl)) (fun _ _ _ h => h) (Or.inl ⟨by rfl, ?_⟩) hHeld ?_ ?_
             rotate_left
             ·rintro w' ⟨s0, s1, s2, s3, s4⟩
              go_simp
              with_reducible rfl
             rotate_left
             ·simp only [Act.put, List.setIfInBounds_toArray, List.set_cons_zero, List.set_cons_succ, i64_w, i32_w]
              rfl
             refine one_ (i := 3) (N := some 32) (bz 15 15) rfl rfl (one_of HT_.out (by kernel_rfl)) (by decide) (fun K hK => ?_)
             refine goes_ Tryd.func56 (by kernel_rfl) rfl #[.agg #[.int .i64 a0_0, .slice A0_1 l0_1.length c0_1], .int .i64 ((rd_T87 l2 x24_2).f0)] (by rfl) rfl rfl (by (try simp only [List.map_toArray, List.map_cons, List.map_nil]); first | done | rfl | (simp only [List.length_drop, List.length_take]; rfl)) ?_
             with_reducible refine (impl_Net_hasLine.calls a0_0 _ _ l0_1 ((rd_T87 l2 x24_2).f0) true _ ?side1 ?side2 A20.out).mono ?_
             (case side1 => exact cb HR0_1)
             (case side2 => exact HC0_1.out)
             rintro e w38 ⟨rfl, hb⟩
             have HS4_ := (hb.cell (World.block_lt_of_cell? _ _ (hHeld.2.2.2.2))).trans (hHeld.2.2.2.2)
             refine ⟨_, rfl, ?_⟩
             have n0_ := rB HO_8 hb
             have n1_ := bkB BK385 hb
             have n2_ := bkB BK392 hb
             have n3_ := Aside0.mk (below_step bw hb)
             clear HO_8
             clear BK385
             clear BK392
             clear HB
             have HO_8 := n0_
             have BK385 := n1_
             have BK392 := n2_
             have HB := n3_
             clear n0_ n1_ n2_ n3_
             (try clear hb)
             (try clear hb2)
             (try clear hk)
             (try clear hi)
             obtain ⟨Ao39, co39, eo39⟩ := Kd.R_slice HO_8.out
             (first | subst eo39 | (injection eo39 with f1_ f2_ f3_; have f4_ := f1_.symm; have f5_ := f3_.symm; clear f1_ f2_ f3_; subst f4_; subst f5_))
             refine hK.out _ _ ⟨(blk_cell BK385.out 0).trans rfl, (blk_cell BK385.out 1).trans rfl, (blk_cell BK392.out 0).trans rfl, (blk_cell BK392.out 1).trans rfl, HS4_⟩ (fun hHeld => ?_)
             clear hK K
             refine norm_ (a' := ?_) ?_ ?_
             rotate_left
             ·show Act.put _ (some 32) _ = _
              simp only [Act.put, List.setIfInBounds_toArray, List.set_cons_zero, List.set_cons_succ, i64_w, i32_w]
              rfl
             refine pure_ (i := 4) (N := some 33) (v := ?_) (a' := ?_) (bz 15 31) rfl rfl (any_of HT_.out (by kernel_rfl)) (fun _ _ _ h => h) (Or.inl ⟨by rfl, ?_⟩) ?_ ?_
             rotate_left
             ·intro w'
              go_simp
              with_reducible rfl
             rotate_left
             ·simp only [Act.put, List.setIfInBounds_toArray, List.set_cons_zero, List.set_cons_succ, i64_w, i32_w]
              rfl
             refine pure_ (i := 5) (N := some 34) (v := ?_) (a' := ?_) (bz 15 63) rfl rfl (any_of HT_.out (by kernel_rfl)) (fun _ _ _ h => h) (Or.inl ⟨by rfl, ?_⟩) ?_ ?_
             rotate_left
             ·intro w'
              go_simp
              with_reducible rfl
             rotate_left
             ·simp only [Act.put, List.setIfInBounds_toArray, List.set_cons_zero, List.set_cons_succ, i64_w, i32_w]
              rfl
             refine pure_ (i := 6) (N := some 35) (v := ?_) (a' := ?_) (bz 15 127) rfl rfl (any_of HT_.out (by kernel_rfl)) (fun _ _ _ h => h) (Or.inl ⟨by rfl, ?_⟩) ?_ ?_
             rotate_left
             ·intro w'
              go_simp
              with_reducible rfl
             rotate_left
             ·simp only [Act.put, List.setIfInBounds_toArray, List.set_cons_zero, List.set_cons_succ, i64_w, i32_w]
              rfl
             refine pure_ (i := 7) (N := some 36) (v := ?_) (a' := ?_) (bz 15 255) rfl rfl (any_of HT_.out (by kernel_rfl)) (fun _ _ _ h => h) (Or.inl ⟨by rfl, ?_⟩) ?_ ?_
             rotate_left
             ·intro w'
              go_simp
              with_reducible rfl
             rotate_left
             ·simp only [Act.put, List.setIfInBounds_toArray, List.set_cons_zero, List.set_cons_succ, i64_w, i32_w]
              rfl
             refine pure_ (i := 11) (N := some 40) (v := ?_) (a' := ?_) (bz 15 2303) rfl rfl (any_of HT_.out (by kernel_rfl)) (fun _ _ _ h => h) (Or.inl ⟨by rfl, ?_⟩) ?_ ?_
             rotate_left
             ·intro w'
              go_simp
              with_reducible rfl
             rotate_left
             ·simp only [Act.put, List.setIfInBounds_toArray, List.set_cons_zero, List.set_cons_succ, i64_w, i32_w]
              rfl
             refine take_ (i := 8) (N := some 37) (v := ?_) (a' := ?_) (bz 15 2559) rfl rfl (take_ofW HT_.out HW_.out (by kernel_rfl)) (fun _ _ _ h => h) (Or.inl ⟨by rfl, ?_⟩) hHeld ?_ ?_
             rotate_left
             ·rintro w' ⟨s0, s1, s2, s3, s4⟩
              go_simp
              with_reducible rfl
             rotate_left
             ·simp only [Act.put, List.setIfInBounds_toArray, List.set_cons_zero, List.set_cons_succ, i64_w, i32_w]
              rfl
             refine pure_ (i := 9) (N := some 38) (v := ?_) (a' := ?_) (bz 15 3071) rfl rfl (any_of HT_.out (by kernel_rfl)) (fun _ _ _ h => h) (Or.inl ⟨by rfl, ?_⟩) ?_ ?_
             rotate_left
             ·intro w'
              go_simp
              with_reducible rfl
             rotate_left
             ·simp only [Act.put, List.setIfInBounds_toArray, List.set_cons_zero, List.set_cons_succ, i64_w, i32_w]
              rfl
             refine take_ (i := 10) (N := some 39) (v := ?_) (a' := ?_) (bz 15 4095) rfl rfl (take_ofW HT_.out HW_.out (by kernel_rfl)) (fun _ _ _ h => h) (Or.inl ⟨by rfl, ?_⟩) hHeld ?_ ?_
             rotate_left
             ·rintro w' ⟨s0, s1, s2, s3, s4⟩
              go_simp
              with_reducible rfl
             rotate_left
             ·simp only [Act.put, List.setIfInBounds_toArray, List.set_cons_zero, List.set_cons_succ, i64_w, i32_w]
              rfl
             refine take_ (i := 12) (N := some 41) (v := ?_) (a' := ?_) (bz 15 8191) rfl rfl (take_ofW HT_.out HW_.out (by kernel_rfl)) (fun _ _ _ h => h) (Or.inl ⟨by rfl, ?_⟩) hHeld ?_ ?_
             rotate_left
             ·rintro w' ⟨s0, s1, s2, s3, s4⟩
              go_simp
              with_reducible rfl
             rotate_left
             ·simp only [Act.put, List.setIfInBounds_toArray, List.set_cons_zero, List.set_cons_succ, i64_w, i32_w]
              rfl
             refine pure_ (i := 13) (N := some 42) (v := ?_) (a' := ?_) (bz 15 16383) rfl rfl (any_of HT_.out (by kernel_rfl)) (fun _ _ _ h => h) (Or.inl ⟨by rfl, ?_⟩) ?_ ?_
             rotate_left
             ·intro w'
              go_simp
              with_reducible rfl
             rotate_left
             ·simp only [Act.put, List.setIfInBounds_toArray, List.set_cons_zero, List.set_cons_succ, i64_w, i32_w]
              rfl
             refine pure_ (i := 14) (N := some 43) (v := ?_) (a' := ?_) (bz 15 32767) rfl rfl (any_of HT_.out (by kernel_rfl)) (fun _ _ _ h => h) (Or.inl ⟨by rfl, ?_⟩) ?_ ?_
             rotate_left
             ·intro w'
              go_simp
              with_reducible rfl
             rotate_left
             ·simp only [Act.put, List.setIfInBounds_toArray, List.set_cons_zero, List.set_cons_succ, i64_w, i32_w]
              rfl
             refine done_ (done_of HT_.out (by kernel_rfl)) ?_
             have hcz40_0 : w38.cell? ⟨gb392, 0, none⟩ = some (.int .i64 ((rd_T87 l2 x24_2).f0)) := (blk_cell BK392.out 0).trans rfl
             have hcz40_1 : w38.cell? ⟨gb392, 1, none⟩ = some (.bool ((rd_T87 l2 x24_2).f1)) := (blk_cell BK392.out 1).trans rfl
             have hfz40_0 := blk_frozen BK392.out 0
             have hfz40_1 := blk_frozen BK392.out 1
             have p32 : 0 ≤ (((rd_T87 l2 x24_2).f0) : Int) := of_decide_eq_true (by first | (with_reducible assumption) | assumption)
             have q32 : (((rd_T87 l2 x24_2).f0) : Int) < ((x8_2.length : Int) : Int) := of_decide_eq_true (by first | (with_reducible assumption) | assumption)
             obtain ⟨go32, co32, eo32, gb32, gl32, cl32, HG32⟩ := Kd.R_form HO_8.out (by omega)
             (first | cases eo32 | (injection eo32 with ea_ en_ ec_; (first | subst ea_ | (injection ea_ with ea_; subst ea_)); subst ec_; clear en_))
             have GB32 := Aside0.mk gb32
             have GG32 := Aside0.mk HG32
             clear gb32 gl32 HG32
             (first | simp only [add_plain] at hx394_0 | skip)
             obtain ⟨hx32_0, hf32_0⟩ := Kd.R_celln false HO_8.out (((rd_T87 l2 x24_2).f0) : Int) p32 q32
             replace p32 := eq_true p32
             replace q32 := eq_true q32
             obtain ⟨hy41_, hz41_⟩ := Kd.R_celln false HO_8.out (((rd_T87 l2 x24_2).f0) : Int) (of_decide_eq_true (by first | (with_reducible assumption) | assumption)) (of_decide_eq_true (by first | (with_reducible assumption) | assumption))
             have HP41 := Kd.R_putg HO_8.out (((rd_T87 l2 x24_2).f0) : Int) ((rd_T87 l2 x24_2).f1)
             try go_wp2_with (first | ((with_reducible refine gate_store (t := 4) (p := 51) rfl ?_); refine store_event (t := 4) (p := 51) (v := ?vo_w42) (w1 := (w38.setCell ⟨go32, (((rd_T87 l2 x24_2).f0) : Int).toNat, none⟩ (.bool ((rd_T87 l2 x24_2).f1)))) ?hg ?ho ?hn ?hr ?_; (case ho => rfl); (case hg => rfl); (case hn => rfl); (case hr => first | (go_simp; done) | (go_simp; rfl)); intro w42 hw; have hg : w38.grownBy w42 (some go32) := (by rw [hw]; exact HP41.2); have hp_ : Kd.R Kd.bool 4 w42 w.heap.size (fun _ => True) (.slice (some ⟨go32, 0, none⟩) x8_2.length co39) y395 := (by rw [hw, Ny395.out]; exact HP41.1); clear HP41; have n0_ := Aside0.mk (hp_); have n1_ := Aside0.mk (blk_grown (g := gb385) (o := .cells #[.int .i64 a0_0, .slice A0_1 l0_1.length c0_1] 40 (0, 0)) (bk BK385) hg (Kd.R_ne HO_8.out BK385.out (by decide))); have n2_ := Aside0.mk (blk_grown (g := gb392) (o := .cells #[.int .i64 ((rd_T87 l2 x24_2).f0), .bool ((rd_T87 l2 x24_2).f1)] 87 (0, 0)) (bk BK392) hg (Kd.R_ne HO_8.out BK392.out (by decide))); have n3_ := Aside0.mk ((by rw [hw]; exact below_set (HB.out) GB32.out : Below w.heap.size w w42)); clear HO_8 BK385 BK392 HB; have HO_8 := n0_; have BK385 := n1_; have BK392 := n2_; have HB := n3_; clear n0_ n1_ n2_ n3_; clear hg hw hp_))
             go_roundg k2
             case measure => have := HJ3.out; have := HK2.out; omega
             case rel => exact ⟨(y395), (wrap64 (x24_2 + 1)), (by first | rfl | (simp; done) | (simp [*]; done)), H', ⟨by have := HJ3.out; have := HK2.out; omega⟩, ⟨rk HO_8⟩, ⟨bk BK385⟩, ⟨bw⟩⟩
           ·rw [if_neg c23] at H
            exact absurd H (by simp)
          ·rw [if_neg c22] at H
           exact absurd H (by simp)
         ·replace c21 := Bool.eq_false_iff.mpr c21
          subst c21
          have H1 : (some (x8_2, x24_2)) = some (r1, r2) := by rw [if_neg (show ¬ (false = true) by decide)] at H; exact H
          clear H
          have H := H1
          clear H1
          simp only [Option.some.injEq, Prod.mk.injEq] at H
          obtain ⟨rfl, rfl⟩ := H
          have p391 : 0 ≤ (x24_2 : Int) := of_decide_eq_true (by first | (with_reducible assumption) | assumption)
          have q391 : x24_2 < (l2.length : Int) := of_decide_eq_true (by first | (with_reducible assumption) | assumption)
          obtain ⟨ad391, e391, hx391_0, hx391_1⟩ := at_T87 HR2.out x24_2 p391 q391
          cases e391
          replace hx391_0 := (HB.out.cell (World.block_lt_of_cell? w _ hx391_0)).trans hx391_0
          replace hx391_1 := (HB.out.cell (World.block_lt_of_cell? w _ hx391_1)).trans hx391_1
          replace p391 := eq_true p391
          replace q391 := eq_true q391
          try go_wp2_with (first | ((with_reducible refine gate_dst (N := 10) rfl ?_); refine box_event ?hg (N := 10) ?hd (cs := #[.int .i64 0, .bool false]) (t := 87) ?hr ?_; (case hd => rfl); (case hg => rfl); (case hr => first | (go_simp; done) | (go_simp; rfl)); intro gb392 hg w43 hbox hb; have n0_ := rB HO_8 hb; have n1_ := bkB BK385 hb; have n2_ := Aside0.mk (below_step bw hb); have n3_ := Aside0.mk (hbox); have n4_ := Aside0.mk ((by rw [hg]; exact (below_size bw) : w.heap.size ≤ gb392)); have n5_ := Aside0.mk ((by rw [hg]; exact (below_size bw) : w.heap.size ≤ gb392)); have n6_ := Aside0.mk ((by rw [hg]; exact Nat.ne_of_lt (blk_lt (g := gb385) (o := .cells #[.int .i64 a0_0, .slice A0_1 l0_1.length c0_1] 40 (0, 0)) (bk BK385)) : gb385 ≠ gb392)); have n7_ := Aside0.mk ((by rw [hg]; exact Nat.ne_of_gt (blk_lt (g := gb385) (o := .cells #[.int .i64 a0_0, .slice A0_1 l0_1.length c0_1] 40 (0, 0)) (bk BK385)) : gb392 ≠ gb385)); clear HO_8 BK385 HB; have HO_8 := n0_; have BK385 := n1_; have HB := n2_; have BK392 := n3_; have GW392 := n4_; have GE392 := n5_; have NB385_392 := n6_; have NB392_385 := n7_; clear n0_ n1_ n2_ n3_ n4_ n5_ n6_ n7_; clear hb hbox hg; have hnb44 := NB392_385.out; have hnc44 := NB385_392.out; have hcz45_0 : w43.cell? ⟨gb392, 0, none⟩ = some (.int .i64 0) := (blk_cell BK392.out 0).trans rfl; have hcz45_1 : w43.cell? ⟨gb392, 1, none⟩ = some (.bool false) := (blk_cell BK392.out 1).trans rfl; have hfz45_0 := blk_frozen BK392.out 0; have hfz45_1 := blk_frozen BK392.out 1))
          have n0_ : Aside0 (Kd.R Kd.bool 4 ((w43.setCell ⟨gb392, 0, none⟩ (.int .i64 ((rd_T87 l2 x24_2).f0))).setCell ⟨gb392, 1, none⟩ (.bool ((rd_T87 l2 x24_2).f1))) w.heap.size (fun _ => True) v389 x8_2) := ⟨by (with_reducible repeat (first | apply Kd.R_alloc | apply Kd.R_drewN | apply Kd.R_drew)); exact Kd.R_mono (Kd.R_far (p := ⟨gb392, 1, none⟩) (Kd.R_far (p := ⟨gb392, 0, none⟩) (Kd.R_types HO_8.out BK392.out (by decide)) (fun _ hk => by first | exact hk.2 | grind) (.int .i64 ((rd_T87 l2 x24_2).f0))) (fun _ hk => by first | exact hk.2 | grind) (.bool ((rd_T87 l2 x24_2).f1))) (fun _ hk => trivial)⟩
          have n1_ : Aside0 (((w43.setCell ⟨gb392, 0, none⟩ (.int .i64 ((rd_T87 l2 x24_2).f0))).setCell ⟨gb392, 1, none⟩ (.bool ((rd_T87 l2 x24_2).f1))).heap[gb385]? = some (.cells #[.int .i64 a0_0, .slice A0_1 l0_1.length c0_1] 40 (0, 0))) := ⟨by (with_reducible repeat (first | refine blk_drewN ?_ _ | refine blk_drew ?_ | refine blk_alloc ?_ _)); refine blk_far ?_ NB385_392.out _; (with_reducible repeat (first | refine blk_drewN ?_ _ | refine blk_drew ?_ | refine blk_alloc ?_ _)); refine blk_far ?_ NB385_392.out _; (with_reducible repeat (first | refine blk_drewN ?_ _ | refine blk_drew ?_ | refine blk_alloc ?_ _)); exact BK385.out⟩
          have n2_ : Aside0 (((w43.setCell ⟨gb392, 0, none⟩ (.int .i64 ((rd_T87 l2 x24_2).f0))).setCell ⟨gb392, 1, none⟩ (.bool ((rd_T87 l2 x24_2).f1))).heap[gb392]? = some (.cells #[.int .i64 ((rd_T87 l2 x24_2).f0), .bool ((rd_T87 l2 x24_2).f1)] 87 (0, 0))) := ⟨by (with_reducible repeat (first | refine blk_drewN ?_ _ | refine blk_drew ?_ | refine blk_alloc ?_ _)); refine blk_put (cs := #[.int .i64 ((rd_T87 l2 x24_2).f0), .bool false]) ?_ 1 _ rfl; (with_reducible repeat (first | refine blk_drewN ?_ _ | refine blk_drew ?_ | refine blk_alloc ?_ _)); refine blk_put (cs := #[.int .i64 0, .bool false]) ?_ 0 _ rfl; (with_reducible repeat (first | refine blk_drewN ?_ _ | refine blk_drew ?_ | refine blk_alloc ?_ _)); exact BK392.out⟩
          have n3_ : Aside0 (Below w.heap.size w ((w43.setCell ⟨gb392, 0, none⟩ (.int .i64 ((rd_T87 l2 x24_2).f0))).setCell ⟨gb392, 1, none⟩ (.bool ((rd_T87 l2 x24_2).f1)))) := ⟨bw⟩
          (try clear HO_8)
          (try clear BK385)
          (try clear BK392)
          (try clear HB)
          generalize ((w43.setCell ⟨gb392, 0, none⟩ (.int .i64 ((rd_T87 l2 x24_2).f0))).setCell ⟨gb392, 1, none⟩ (.bool ((rd_T87 l2 x24_2).f1))) = w46 at n0_ n1_ n2_ n3_ ⊢
          have HO_8 := n0_
          have BK385 := n1_
          have BK392 := n2_
          have HB := n3_
          clear n0_ n1_ n2_ n3_
          have n0_ := Aside0.mk (Kd.R_drew HO_8.out)
          have n1_ := Aside0.mk (blk_drew BK385.out)
          have n2_ := Aside0.mk (blk_drew BK392.out)
          have n3_ := Aside0.mk (below_drew1 HB.out)
          clear HO_8
          clear BK385
          clear BK392
          clear HB
          have HO_8 := n0_
          have BK385 := n1_
          have BK392 := n2_
          have HB := n3_
          clear n0_ n1_ n2_ n3_
          refine start_ (n := 15) (S := fun w' => w'.cell? ⟨gb385, 0, none⟩ = some (.int .i64 a0_0) ∧ w'.cell? ⟨gb385, 1, none⟩ = some (.slice A0_1 l0_1.length c0_1) ∧ w'.cell? ⟨gb392, 0, none⟩ = some (.int .i64 ((rd_T87 l2 x24_2).f0)) ∧ w'.cell? ⟨gb392, 1, none⟩ = some (.bool ((rd_T87 l2 x24_2).f1))) (ds := []) (bz 15 0) (by kernel_rfl) rfl rfl ⟨(blk_cell BK385.out 0).trans rfl, (blk_cell BK385.out 1).trans rfl, (blk_cell BK392.out 0).trans rfl, (blk_cell BK392.out 1).trans rfl⟩ (fun hHeld => ?_); refine with_tabW impl_OrderRun.tab7 impl_OrderRun.bits7 (fun HT_ HW_ => ?_)
          generalize w46.drew = w47 at HO_8 BK385 BK392 HB hHeld ⊢
          refine pure_ (i := 1) (N := some 30) (v := ?_) (a' := ?_) (bz 15 2) rfl rfl (any_of HT_.out (by kernel_rfl)) (fun _ _ _ h => h) (Or.inl ⟨by rfl, ?_⟩) ?_ ?_
          rotate_left
          ·intro w'
           go_simp
           with_reducible rfl
          rotate_left
          ·simp only [Act.put, List.setIfInBounds_toArray, List.set_cons_zero, List.set_cons_succ, i64_w, i32_w]
           rfl
          refine take_ (i := 0) (N := some 29) (v := ?_) (a' := ?_) (bz 15 3) rfl rfl (take_ofW HT_.out HW_.out (by kernel_rfl)) (fun _ _ _ h => h) (Or.inl ⟨by rfl, ?_⟩) hHeld ?_ ?_
          rotate_left
          ·rintro w' ⟨s0, s1, s2, s3⟩
           go_simp
           with_reducible rfl
          rotate_left
          ·simp only [Act.put, List.setIfInBounds_toArray, List.set_cons_zero, List.set_cons_succ, i64_w, i32_w]
           rfl
          refine take_ (i := 2) (N := some 31) (v := ?_) (a' := ?_) (bz 15 7) rfl rfl (take_ofW HT_.out HW_.out (by kernel_rfl)) (fun _ _ _ h => h) (Or.inl ⟨by rfl, ?_⟩) hHeld ?_ ?_
          rotate_left
          ·rintro w' ⟨s0, s1, s2, s3⟩
           go_simp
           with_reducible rfl
          rotate_left
          ·simp only [Act.put, List.setIfInBounds_toArray, List.set_cons_zero, List.set_cons_succ, i64_w, i32_w]
           rfl
          refine one_ (i := 3) (N := some 32) (bz 15 15) rfl rfl (one_of HT_.out (by kernel_rfl)) (by decide) (fun K hK => ?_)
          refine goes_ Tryd.func56 (by kernel_rfl) rfl #[.agg #[.int .i64 a0_0, .slice A0_1 l0_1.length c0_1], .int .i64 ((rd_T87 l2 x24_2).f0)] (by rfl) rfl rfl (by (try simp only [List.map_toArray, List.map_cons, List.map_nil]); first | done | rfl | (simp only [List.length_drop, List.length_take]; rfl)) ?_
          with_reducible refine (impl_Net_hasLine.calls a0_0 _ _ l0_1 ((rd_T87 l2 x24_2).f0) false _ ?side1 ?side2 A20.out).mono ?_
          (case side1 => exact cb HR0_1)
          (case side2 => exact HC0_1.out)
          rintro e w48 ⟨rfl, hb⟩
          refine ⟨_, rfl, ?_⟩
          have n0_ := rB HO_8 hb
          have n1_ := bkB BK385 hb
          have n2_ := bkB BK392 hb
          have n3_ := Aside0.mk (below_step bw hb)
          clear HO_8
          clear BK385
          clear BK392
          clear HB
          have HO_8 := n0_
          have BK385 := n1_
          have BK392 := n2_
          have HB := n3_
          clear n0_ n1_ n2_ n3_
          (try clear hb)
          (try clear hb2)
          (try clear hk)
          (try clear hi)
          refine hK.out _ _ ⟨(blk_cell BK385.out 0).trans rfl, (blk_cell BK385.out 1).trans rfl, (blk_cell BK392.out 0).trans rfl, (blk_cell BK392.out 1).trans rfl⟩ (fun hHeld => ?_)
          clear hK K
          refine norm_ (a' := ?_) ?_ ?_
          rotate_left
          ·show Act.put _ (some 32) _ = _
           simp only [Act.put, List.setIfInBounds_toArray, List.set_cons_zero, List.set_cons_succ, i64_w, i32_w]
           rfl
          refine pure_ (i := 4) (N := some 33) (v := ?_) (a' := ?_) (bz 15 31) rfl rfl (any_of HT_.out (by kernel_rfl)) (fun _ _ _ h => h) (Or.inl ⟨by rfl, ?_⟩) ?_ ?_
          rotate_left
          ·intro w'
           go_simp
           with_reducible rfl
          rotate_left
          ·simp only [Act.put, List.setIfInBounds_toArray, List.set_cons_zero, List.set_cons_succ, i64_w, i32_w]
           rfl
          refine pure_ (i := 5) (N := some 34) (v := ?_) (a' := ?_) (bz 15 63) rfl rfl (any_of HT_.out (by kernel_rfl)) (fun _ _ _ h => h) (Or.inl ⟨by rfl, ?_⟩) ?_ ?_
          rotate_left
          ·intro w'
           go_simp
           with_reducible rfl
          rotate_left
          ·simp only [Act.put, List.setIfInBounds_toArray, List.set_cons_zero, List.set_cons_succ, i64_w, i32_w]
           rfl
          refine pure_ (i := 6) (N := some 35) (v := undef) (a' := ?_) (bz 15 127) rfl rfl (any_of HT_.out (by kernel_rfl)) (fun _ _ _ h => h) (Or.inr ⟨by rfl, rfl⟩) ?_ ?_
          rotate_left
          ·simp only [Act.put, List.setIfInBounds_toArray, List.set_cons_zero, List.set_cons_succ, i64_w, i32_w]
           rfl
          refine pure_ (i := 7) (N := some 36) (v := undef) (a' := ?_) (bz 15 255) rfl rfl (any_of HT_.out (by kernel_rfl)) (fun _ _ _ h => h) (Or.inr ⟨by rfl, rfl⟩) ?_ ?_
          rotate_left
          ·simp only [Act.put, List.setIfInBounds_toArray, List.set_cons_zero, List.set_cons_succ, i64_w, i32_w]
           rfl
          refine pure_ (i := 8) (N := some 37) (v := undef) (a' := ?_) (bz 15 511) rfl rfl (any_of HT_.out (by kernel_rfl)) (fun _ _ _ h => h) (Or.inr ⟨by rfl, rfl⟩) ?_ ?_
          rotate_left
          ·simp only [Act.put, List.setIfInBounds_toArray, List.set_cons_zero, List.set_cons_succ, i64_w, i32_w]
           rfl
          refine pure_ (i := 9) (N := some 38) (v := undef) (a' := ?_) (bz 15 1023) rfl rfl (any_of HT_.out (by kernel_rfl)) (fun _ _ _ h => h) (Or.inr ⟨by rfl, rfl⟩) ?_ ?_
          rotate_left
          ·simp only [Act.put, List.setIfInBounds_toArray, List.set_cons_zero, List.set_cons_succ, i64_w, i32_w]
           rfl
          refine pure_ (i := 10) (N := some 39) (v := undef) (a' := ?_) (bz 15 2047) rfl rfl (any_of HT_.out (by kernel_rfl)) (fun _ _ _ h => h) (Or.inr ⟨by rfl, rfl⟩) ?_ ?_
          rotate_left
          ·simp only [Act.put, List.setIfInBounds_toArray, List.set_cons_zero, List.set_cons_succ, i64_w, i32_w]
           rfl
          refine pure_ (i := 11) (N := some 40) (v := undef) (a' := ?_) (bz 15 4095) rfl rfl (any_of HT_.out (by kernel_rfl)) (fun _ _ _ h => h) (Or.inr ⟨by rfl, rfl⟩) ?_ ?_
          rotate_left
          ·simp only [Act.put, List.setIfInBounds_toArray, List.set_cons_zero, List.set_cons_succ, i64_w, i32_w]
           rfl
          refine pure_ (i := 12) (N := some 41) (v := undef) (a' := ?_) (bz 15 8191) rfl rfl (any_of HT_.out (by kernel_rfl)) (fun _ _ _ h => h) (Or.inr ⟨by rfl, rfl⟩) ?_ ?_
          rotate_left
          ·simp only [Act.put, List.setIfInBounds_toArray, List.set_cons_zero, List.set_cons_succ, i64_w, i32_w]
           rfl
          refine pure_ (i := 13) (N := some 42) (v := undef) (a' := ?_) (bz 15 16383) rfl rfl (any_of HT_.out (by kernel_rfl)) (fun _ _ _ h => h) (Or.inr ⟨by rfl, rfl⟩) ?_ ?_
          rotate_left
          ·simp only [Act.put, List.setIfInBounds_toArray, List.set_cons_zero, List.set_cons_succ, i64_w, i32_w]
           rfl
          refine pure_ (i := 14) (N := some 43) (v := ?_) (a' := ?_) (bz 15 32767) rfl rfl (any_of HT_.out (by kernel_rfl)) (fun _ _ _ h => h) (Or.inl ⟨by rfl, ?_⟩) ?_ ?_
          rotate_left
          ·intro w'
           go_simp
           with_reducible rfl
          rotate_left
          ·simp only [Act.put, List.setIfInBounds_toArray, List.set_cons_zero, List.set_cons_succ, i64_w, i32_w]
           rfl
          refine done_ (done_of HT_.out (by kernel_rfl)) ?_
          try go_wp2
          go_ret2
          exact ⟨_, by first | rfl | (simp [errW_none, errW_some] <;> rfl) | (simp [*, errW_none, errW_some] <;> rfl), rk HO_8, bw⟩
        ·rw [if_neg c19] at H
         exact absurd H (by simp)
       ·rw [if_neg c18] at H
        exact absurd H (by simp)
      ·rw [if_neg c17] at H
       have c17b0 : decide (x24_2 < (l2.length : Int)) = false := decide_eq_false c17
       clear c17
       simp only [Option.some.injEq, Prod.mk.injEq] at H
       obtain ⟨rfl, rfl⟩ := H
       go_wp2
       go_ret2
       exact ⟨_, by first | rfl | (simp [errW_none, errW_some] <;> rfl) | (simp [*, errW_none, errW_some] <;> rfl), rk HO_8, bw⟩

end Go.Proofs.YtihmidnjiaomhaaDoor.G
