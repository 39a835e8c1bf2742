-- Printed by wip/gen.py of this session's repo, over the kit's print.py. Not trusted: Lean checks it.
import Derived.Test.YtihmidnjiaomhaaDoorSq
import Derived.Test.YtihmidnjiaomhaaDoorGx0
import Derived.Test.YtihmidnjiaomhaaDoorGx7
import Derived.Test.YtihmidnjiaomhaaDoorGx10
import Derived.Test.YtihmidnjiaomhaaDoorGx11
namespace Go.Proofs.YtihmidnjiaomhaaDoor.G
open Go.RowKit Go.Proofs.YtihmidnjiaomhaaDoorW.PrintWords Go.Proofs.YtihmidnjiaomhaaDoorW.PrintLast Go.Proofs.YtihmidnjiaomhaaDoorW.PrintMore Go.Proofs.YtihmidnjiaomhaaDoor.Sq
attribute [local go_sem] max2_int min2_int max_two min_two max_three min_three max_four min_four   -- for this text's walks alone
set_option linter.unusedVariables false
set_option linter.unusedSimpArgs false

/-! ### spec_OrderRun: function 22 -/
mutual
def spec_OrderRun.j0 : Nat → List Bool → List (S87) → Bool → Option (List Bool × Int)
 | 0, _, _, _ => none
 | k + 1, x1, x2, x18 => if x18 = true then (some ((([] : List Bool)), 0)) else ((spec_l2Copy.f x1).bind fun t516 => (spec_OrderRun.l0 k x1 x2 t516 0))
def spec_OrderRun.l0 : Nat → List Bool → List (S87) → List Bool → Int → Option (List Bool × Int)
 | 0, _, _, _, _ => none
 | k + 1, x1, x2, x8, x9 => if x9 < (x2.length : Int) then (if 0 ≤ x9 then (if ((rd_T87 x2 x9).f0) ≥ (x1.length : Int) then (some (x8, x9)) else (if 0 ≤ ((rd_T87 x2 x9).f0) then (if ((rd_T87 x2 x9).f0) < (x8.length : Int) then (if ((rdOf false x8 ((rd_T87 x2 x9).f0)) == ((rd_T87 x2 x9).f1)) = true then (some (x8, x9)) else (spec_OrderRun.l0 k x1 x2 (x8.set (((rd_T87 x2 x9).f0) : Int).toNat ((rd_T87 x2 x9).f1)) (wrap64 (x9 + 1)))) else (none)) else (none))) else (none)) else (some (x8, (x2.length : Int)))
end
def spec_OrderRun.f (k : Nat) (a0_0 : Int) (l0_1 : List (S42)) (l1 : List Bool) (l2 : List (S87)) : Option (List Bool × Int) := (spec_StateValid.f k a0_0 l0_1 l1).bind fun t511 => (if t511 = true then ((spec_OrderValid.f k l2).bind fun t512 => (spec_OrderRun.j0 k l1 l2 (!t512))) else (spec_OrderRun.j0 k l1 l2 true))
theorem spec_OrderRun.mono_l : ∀ k, (∀ y0 y1 y2, LeO (spec_OrderRun.j0 k y0 y1 y2) (spec_OrderRun.j0 (k + 1) y0 y1 y2)) ∧ (∀ y0 y1 y2 y3, LeO (spec_OrderRun.l0 k y0 y1 y2 y3) (spec_OrderRun.l0 (k + 1) y0 y1 y2 y3))
 | 0 => ⟨fun _ _ _ r h => by simp [spec_OrderRun.j0] at h, fun _ _ _ _ r h => by simp [spec_OrderRun.l0] at h⟩
 | k + 1 => by
  obtain ⟨ih0, ih1⟩ := spec_OrderRun.mono_l k
  refine ⟨?_, ?_⟩
  ·intro y0 y1 y2
   unfold spec_OrderRun.j0
   repeat' first
   | (with_reducible exact ih0 _ _ _)
   | (with_reducible exact ih1 _ _ _ _)
   | (with_reducible exact spec_OrderValid.mono _ _)
   | (with_reducible exact spec_StateValid.mono _ _ _ _)
   | (with_reducible exact LeO.refl _)
   | (with_reducible exact LeO.none _)
   | (with_reducible refine LeO.ite ?_ ?_)
   | (with_reducible refine LeO.bind ?_ (fun _ => ?_))
   | exact ih0 _ _ _
   | exact ih1 _ _ _ _
   | exact spec_OrderValid.mono _ _
   | exact spec_StateValid.mono _ _ _ _
   | exact LeO.none _
   | refine LeO.ite ?_ ?_
   | refine LeO.bind ?_ (fun _ => ?_)
  ·intro y0 y1 y2 y3
   unfold spec_OrderRun.l0
   repeat' first
   | (with_reducible exact ih0 _ _ _)
   | (with_reducible exact ih1 _ _ _ _)
   | (with_reducible exact spec_OrderValid.mono _ _)
   | (with_reducible exact spec_StateValid.mono _ _ _ _)
   | (with_reducible exact LeO.refl _)
   | (with_reducible exact LeO.none _)
   | (with_reducible refine LeO.ite ?_ ?_)
   | (with_reducible refine LeO.bind ?_ (fun _ => ?_))
   | exact ih0 _ _ _
   | exact ih1 _ _ _ _
   | exact spec_OrderValid.mono _ _
   | exact spec_StateValid.mono _ _ _ _
   | exact LeO.none _
   | refine LeO.ite ?_ ?_
   | refine LeO.bind ?_ (fun _ => ?_)
theorem spec_OrderRun.mono : ∀ a0 a1 a2 a3 k, LeO (spec_OrderRun.f k a0 a1 a2 a3) (spec_OrderRun.f (k + 1) a0 a1 a2 a3) := by
 intro a0 a1 a2 a3 k
 obtain ⟨ih0, ih1⟩ := spec_OrderRun.mono_l k
 unfold spec_OrderRun.f
 repeat' first
   | (with_reducible exact ih0 _ _ _)
   | (with_reducible exact ih1 _ _ _ _)
   | (with_reducible exact spec_OrderValid.mono _ _)
   | (with_reducible exact spec_StateValid.mono _ _ _ _)
   | (with_reducible exact LeO.refl _)
   | (with_reducible exact LeO.none _)
   | (with_reducible refine LeO.ite ?_ ?_)
   | (with_reducible refine LeO.bind ?_ (fun _ => ?_))
   | exact ih0 _ _ _
   | exact ih1 _ _ _ _
   | exact spec_OrderValid.mono _ _
   | exact spec_StateValid.mono _ _ _ _
   | exact LeO.none _
   | refine LeO.ite ?_ ?_
   | refine LeO.bind ?_ (fun _ => ?_)
def spec_OrderRun.T7 : Bool × List (List Nat × List Nat) := (true, [([], []), ([], []), ([0, 1], [0, 1]), ([2], [2]), ([3], [3]), ([], []), ([5], [5]), ([4, 6], [4, 6]), ([7], [7]), ([8], [8]), ([8], [8]), ([8], [8]), ([10, 11, 8], [8, 10, 11]), ([12, 8], [8, 12]), ([13, 8], [8, 13]), ([9, 14, 8], [8, 9, 14]), ([15, 8], [8, 15]), ([8], [8]), ([8], [8]), ([17, 18, 8], [8, 17, 18]), ([19, 8], [8, 19]), ([20, 8], [8, 20]), ([16, 21, 8], [8, 16, 21]), ([8, 22], [8, 22])])
def spec_OrderRun.B7 : List Nat := [0, 0, 3, 7, 15, 0, 32, 127, 255, 511, 511, 511, 3583, 7679, 15871, 32767, 65535, 511, 511, 393727, 918015, 1966591, 4194303, 8388607]
theorem spec_OrderRun.tab7 : rtab .any (opsOf Tryd.f22 7) = spec_OrderRun.T7 := by kernel_rfl
theorem spec_OrderRun.bits7 : waitsOk spec_OrderRun.T7.2 spec_OrderRun.B7 = true := by kernel_rfl
def spec_OrderRun.T9 : Bool × List (List Nat × List Nat) := (true, [([], []), ([], []), ([], []), ([1, 2], [1, 2]), ([3], [3]), ([4], [4]), ([], []), ([], []), ([6, 7], [6, 7]), ([8], [8]), ([9], [9]), ([0, 5, 0, 1, 2, 3, 4, 5, 6, 7, 8, 9, 10], [0, 5]), ([11, 10, 0, 1, 2, 3, 4, 5, 6, 7, 8, 9, 10], [10, 11])])
def spec_OrderRun.B9 : List Nat := [0, 0, 0, 6, 14, 30, 0, 0, 192, 448, 960, 2047, 4095]
theorem spec_OrderRun.tab9 : rtab .any (opsOf Tryd.f22 9) = spec_OrderRun.T9 := by kernel_rfl
theorem spec_OrderRun.bits9 : waitsOk spec_OrderRun.T9.2 spec_OrderRun.B9 = true := by kernel_rfl
set_option maxHeartbeats 8000000 in
set_option maxRecDepth 100000 in
theorem spec_OrderRun.calls (k : Nat) (a0_0 : Int) (A0_1 : Option Addr) (c0_1 : Nat) (l0_1 : List (S42)) (A1 : Option Addr) (c1 : Nat) (l1 : List Bool) (A2 : Option Addr) (c2 : Nat) (l2 : List (S87)) (r1 : List Bool) (r2 : Int) (w : World) (hr0_1 : Kd.C k42 w A0_1 l0_1.length l0_1) (hc0_1 : l0_1.length ≤ c0_1) (hr1 : Kd.C Kd.bool w A1 l1.length l1) (hc1 : l1.length ≤ c1) (hr2 : Kd.C k87 w A2 l2.length l2) (hc2 : l2.length ≤ c2) (h : spec_OrderRun.f k a0_0 l0_1 l1 l2 = some (r1, r2)) :
  Calls Tryd.prog 22 #[.agg #[.int .i64 a0_0, .slice A0_1 l0_1.length c0_1], .slice A1 l1.length c1, .slice A2 l2.length c2] w fun e w' => ∃ v0_ : Value, e = .returned (.tuple #[v0_, .int .i64 r2]) ∧ Kd.R Kd.bool 4 w' w.heap.size (fun _ => True) v0_ r1 ∧ Below w.heap.size w w' := by
 have hu40 := Tryd.underlying40
 have HR0_1 := Aside0.mk hr0_1
 have HC0_1 := Aside0.mk hc0_1
 clear hr0_1 hc0_1
 have HR1 := Aside0.mk hr1
 have HC1 := Aside0.mk hc1
 clear hr1 hc1
 have HR2 := Aside0.mk hr2
 have HC2 := Aside0.mk hc2
 clear hr2 hc2
 have HB := Aside0.mk (Below.refl w.heap.size w)
 have H : ((spec_StateValid.f k a0_0 l0_1 l1).bind fun t511 => (if t511 = true then ((spec_OrderValid.f k l2).bind fun t512 => (spec_OrderRun.j0 k l1 l2 (!t512))) else (spec_OrderRun.j0 k l1 l2 true))) = some (r1, r2) := h
 clear h
 have HC4 := Aside0.mk H
 clear H
 go_enter Tryd.func22, Tryd.ntmps22
 go_upto_region 1 with (first | ((with_reducible refine gate_dst (N := 3) rfl ?_); refine box_event ?hg (N := 3) ?hd (cs := #[.int .i64 a0_0, .slice A0_1 l0_1.length c0_1]) (t := 40) ?hr ?_; (case hd => rfl); (case hg => rfl); (case hr => first | (go_simp; done) | (go_simp; rfl)); intro gb510 hg w5 hbox hb; have n0_ := Aside0.mk (below_step bw hb); have n1_ := Aside0.mk (hbox); have n2_ := Aside0.mk ((by rw [hg]; exact (below_size bw) : w.heap.size ≤ gb510)); have n3_ := Aside0.mk ((by rw [hg]; exact (below_size bw) : w.heap.size ≤ gb510)); clear HB; have HB := n0_; have BK510 := n1_; have GW510 := n2_; have GE510 := n3_; clear n0_ n1_ n2_ n3_; clear hb hbox hg))
 (try simp only [Act.put, List.setIfInBounds_toArray, List.set_cons_zero, List.set_cons_succ])
 go_cut [18] (fun v18 wc => ∃ (kq : Nat) (x18_3 : Bool), v18 = .bool x18_3 ∧ Aside0 (spec_OrderRun.j0 kq l1 l2 x18_3 = some (r1, r2)) ∧ Aside0 (kq ≤ k) ∧ Aside0 (wc.heap[gb510]? = some (.cells #[.int .i64 a0_0, (.slice A0_1 l0_1.length c0_1)] 40 (0, 0))) ∧ Aside0 (Below w.heap.size w wc))
 case first =>
  have H := HC4.out
  clear HC4
  replace H := Option.bind_eq_some_iff.mp H
  obtain ⟨t511, A60, H⟩ := H
  replace H : (if t511 = true then ((spec_OrderValid.f k l2).bind fun t512 => (spec_OrderRun.j0 k l1 l2 (!t512))) else (spec_OrderRun.j0 k l1 l2 true)) = some (r1, r2) := H
  have A6 := Aside0.mk A60
  clear A60
  by_cases c7 : t511 = true
  ·subst c7
   have H1 : ((spec_OrderValid.f k l2).bind fun t512 => (spec_OrderRun.j0 k l1 l2 (!t512))) = some (r1, r2) := by rw [if_pos rfl] at H; exact H
   clear H
   have H := H1
   clear H1
   replace H := Option.bind_eq_some_iff.mp H
   obtain ⟨t512, A80, H⟩ := H
   replace H : (spec_OrderRun.j0 k l1 l2 (!t512)) = some (r1, r2) := H
   have A8 := Aside0.mk A80
   clear A80
   have H' := Aside0.mk H
   clear H
   have hcz9_0 : w5.cell? ⟨gb510, 0, none⟩ = some (.int .i64 a0_0) := (blk_cell BK510.out 0).trans rfl
   have hcz9_1 : w5.cell? ⟨gb510, 1, none⟩ = some (.slice A0_1 l0_1.length c0_1) := (blk_cell BK510.out 1).trans rfl
   have hfz9_0 := blk_frozen BK510.out 0
   have hfz9_1 := blk_frozen BK510.out 1
   go_wp2_with (first | ((with_reducible refine gate_callee (f := 23) rfl ?_); refine goesL_ (some 12) rfl rfl Tryd.func23 (by kernel_rfl) rfl #[.agg #[.int .i64 a0_0, .slice A0_1 l0_1.length c0_1], .slice A1 l1.length c1] rfl (by (try simp only [List.map_toArray, List.map_cons, List.map_nil]); first | done | rfl | (simp only [List.length_drop, List.length_take]; rfl)) ?_; (with_reducible refine (spec_StateValid.calls k a0_0 _ _ l0_1 _ _ l1 true _ ?side1 ?side2 ?side3 ?side4 A6.out).mono ?_); (case side1 => exact cb HR0_1); (case side2 => exact HC0_1.out); (case side3 => exact cb HR1); (case side4 => exact HC1.out); rintro e w10 ⟨rfl, hb⟩; refine ⟨_, rfl, ?_⟩; have n0_ := bkB BK510 hb; have n1_ := Aside0.mk (below_step bw hb); clear BK510 HB; have BK510 := n0_; have HB := n1_; clear n0_ n1_; (try clear hb); (try clear hb2); (try clear hk); (try clear hi)) | (go_at_call 24; (with_reducible refine (spec_OrderValid.calls k _ _ l2 t512 _ ?side1 ?side2 A8.out).mono ?_); (case side1 => exact cb HR2); (case side2 => exact HC2.out); rintro e w' ⟨rfl, ⟨nd, rfl⟩⟩))
   go_meet
   case rel => exact ⟨_, (!t512), (by first | rfl | (simp; done) | (simp [*]; done)), H', ⟨by first | omega | exact Nat.le_refl _⟩, ⟨bk BK510⟩, ⟨bw⟩⟩
  ·replace c7 := Bool.eq_false_iff.mpr c7
   subst c7
   have H1 : (spec_OrderRun.j0 k l1 l2 true) = some (r1, r2) := by rw [if_neg (show ¬ (false = true) by decide)] at H; exact H
   clear H
   have H := H1
   clear H1
   have H' := Aside0.mk H
   clear H
   have hcz11_0 : w5.cell? ⟨gb510, 0, none⟩ = some (.int .i64 a0_0) := (blk_cell BK510.out 0).trans rfl
   have hcz11_1 : w5.cell? ⟨gb510, 1, none⟩ = some (.slice A0_1 l0_1.length c0_1) := (blk_cell BK510.out 1).trans rfl
   have hfz11_0 := blk_frozen BK510.out 0
   have hfz11_1 := blk_frozen BK510.out 1
   go_wp2_with (first | ((with_reducible refine gate_callee (f := 23) rfl ?_); refine goesL_ (some 12) rfl rfl Tryd.func23 (by kernel_rfl) rfl #[.agg #[.int .i64 a0_0, .slice A0_1 l0_1.length c0_1], .slice A1 l1.length c1] rfl (by (try simp only [List.map_toArray, List.map_cons, List.map_nil]); first | done | rfl | (simp only [List.length_drop, List.length_take]; rfl)) ?_; (with_reducible refine (spec_StateValid.calls k a0_0 _ _ l0_1 _ _ l1 false _ ?side1 ?side2 ?side3 ?side4 A6.out).mono ?_); (case side1 => exact cb HR0_1); (case side2 => exact HC0_1.out); (case side3 => exact cb HR1); (case side4 => exact HC1.out); rintro e w12 ⟨rfl, hb⟩; refine ⟨_, rfl, ?_⟩; have n0_ := bkB BK510 hb; have n1_ := Aside0.mk (below_step bw hb); clear BK510 HB; have BK510 := n0_; have HB := n1_; clear n0_ n1_; (try clear hb); (try clear hb2); (try clear hk); (try clear hi)))
   go_meet
   case rel => exact ⟨_, (true), (by first | rfl | (simp; done) | (simp [*]; done)), H', ⟨by first | omega | exact Nat.le_refl _⟩, ⟨bk BK510⟩, ⟨bw⟩⟩
 case rest =>
  clear HC4
  try clear c1
  try clear c2
  try clear p2
  try clear c7
  try clear hcz11_0
  try clear hcz11_1
  try clear hcz9_0
  try clear hcz9_1
  try clear hfz11_0
  try clear hfz11_1
  try clear hfz9_0
  try clear hfz9_1
  obtain ⟨kq, x18_3, rfl, HA, HJ3, BK510, HB⟩ := hcut
  cases kq with
  | zero => exact absurd HA.out (by simp [spec_OrderRun.j0])
  | succ kj3 =>
   have H := HA.out
   clear HA
   simp only [spec_OrderRun.j0] at H
   by_cases c13 : x18_3 = true
   ·subst c13
    have H1 : (some ((([] : List Bool)), 0)) = some (r1, r2) := by rw [if_pos rfl] at H; exact H
    clear H
    have H := H1
    clear H1
    obtain ⟨y513, hy513⟩ : ∃ y_ : List Bool, y_ = (([] : List Bool)) := ⟨_, rfl⟩
    replace H : (some (y513, 0)) = some (r1, r2) := by first | (rw [hy513]; with_reducible exact H) | (have H2_ := (Option.bind_some _ _).symm.trans H; rw [hy513]; with_reducible exact H2_) | (have H2_ := (Option.bind_some _ _).symm.trans H; with_reducible exact H2_) | with_reducible exact H | (rw [hy513]; exact H) | exact H
    have Ny513 := Aside0.mk hy513
    clear hy513
    simp only [Option.some.injEq, Prod.mk.injEq] at H
    obtain ⟨rfl, rfl⟩ := H
    go_wp2_with (first | ((with_reducible refine gate_dst (N := 19) rfl ?_); refine Kd.R_lit Kd.bool _ 4 ?hg (N := 19) ?hd (xs := ([] : List Bool)) (inner := []) (ok := fun _ => True) (okp := fun _ => True) ?hr ?hp (fun _ hk => by first | exact hk | grind) trivial (Below.refl _ _) (Nat.le_refl _) (by simp) ?_; (case hd => rfl); (case hg => rfl); (case hr => first | (go_simp; done) | (go_simp; rfl)); (case hp => exact (Reps.none _ _)); intro v514 w14 ho15 hb hg_ hnew_; clear hg_ hnew_; (first | rw [← Ny513.out] at ho15 | (simp only [Int.reduceToNat] at ho15; rw [← Ny513.out] at ho15)); have n0_ := Aside0.mk (Kd.R_lower ho15 (below_size bw)); have n1_ := bkB BK510 hb; have n2_ := Aside0.mk (below_step bw hb); clear BK510 HB; have HO515 := n0_; have BK510 := n1_; have HB := n2_; clear n0_ n1_ n2_; clear hb ho15))
    go_ret2
    exact ⟨_, by first | rfl | (simp [errW_none, errW_some] <;> rfl) | (simp [*, errW_none, errW_some] <;> rfl), rk HO515, bw⟩
   ·replace c13 := Bool.eq_false_iff.mpr c13
    subst c13
    have H1 : ((spec_l2Copy.f l1).bind fun t516 => (spec_OrderRun.l0 kj3 l1 l2 t516 0)) = some (r1, r2) := by rw [if_neg (show ¬ (false = true) by decide)] at H; exact H
    clear H
    have H := H1
    clear H1
    replace H := Option.bind_eq_some_iff.mp H
    obtain ⟨t516, A160, H⟩ := H
    replace H : (spec_OrderRun.l0 kj3 l1 l2 t516 0) = some (r1, r2) := H
    have A16 := Aside0.mk A160
    clear A160
    have H' := Aside0.mk H
    clear H
    go_wp2_with (first | ((with_reducible refine gate_callee (f := 59) rfl ?_); refine goesL_ (some 21) rfl rfl Tryd.func59 (by kernel_rfl) rfl #[.slice A1 l1.length c1] rfl (by (try simp only [List.map_toArray, List.map_cons, List.map_nil]); first | done | rfl | (simp only [List.length_drop, List.length_take]; rfl)) ?_; (with_reducible refine (spec_l2Copy.calls _ _ l1 t516 _ ?side1 ?side2 A16.out).mono ?_); (case side1 => exact cb HR1); (case side2 => exact HC1.out); rintro e w17 ⟨v517, rfl, ho0, hb⟩; refine ⟨_, rfl, ?_⟩; have n0_ := Aside0.mk (Kd.R_lower ho0 (below_size bw)); have n1_ := bkB BK510 hb; have n2_ := Aside0.mk (below_step bw hb); clear BK510 HB; have HO518 := n0_; have BK510 := n1_; have HB := n2_; clear n0_ n1_ n2_; (try clear hb); (try clear hb2); (try clear hk); (try clear hi); (try clear ho0)))
    go_loopg [9] kj3 (fun kq v9 w' => ∃ (x8_2 : List Bool) (x9_2 : Int), v9 = .int .i64 x9_2 ∧ Aside0 (spec_OrderRun.l0 kq l1 l2 x8_2 x9_2 = some (r1, r2)) ∧ Aside0 (kq ≤ kj3) ∧ Aside0 (Kd.R Kd.bool 4 w' w.heap.size (fun _ => True) v517 x8_2) ∧ Aside0 (w'.heap[gb510]? = some (.cells #[.int .i64 a0_0, (.slice A0_1 l0_1.length c0_1)] 40 (0, 0))) ∧ Aside0 (Below w.heap.size w w'))
    case atStart => exact ⟨(t516), (0), (by first | rfl | (simp; done) | (simp [*]; done)), H', ⟨Nat.le_refl _⟩, ⟨rk HO518⟩, ⟨bk BK510⟩, ⟨bw⟩⟩
    case round =>
     clear H'
     try clear c1
     try clear c2
     try clear p2
     try clear c5
     try clear c7
     try clear c13
     try clear hcz11_0
     try clear hcz11_1
     try clear hcz9_0
     try clear hcz9_1
     try clear hfz11_0
     try clear hfz11_1
     try clear hfz9_0
     try clear hfz9_1
     try clear p2
     obtain ⟨x8_2, x9_2, rfl, HA, HK2, HO_8, BK510, HB⟩ := hrel
     cases gk with
     | zero => exact absurd HA.out (by simp [spec_OrderRun.l0])
     | succ k2 =>
      have H := HA.out
      clear HA
      simp only [spec_OrderRun.l0] at H
      by_cases c18 : x9_2 < (l2.length : Int)
      ·rw [if_pos c18] at H
       have c18b0 : decide (x9_2 < (l2.length : Int)) = true := decide_eq_true c18
       clear c18
       by_cases c19 : 0 ≤ x9_2
       ·rw [if_pos c19] at H
        have c19b0 : decide (0 ≤ x9_2) = true := decide_eq_true c19
        clear c19
        by_cases c20 : ((rd_T87 l2 x9_2).f0) ≥ (l1.length : Int)
        ·rw [if_pos c20] at H
         have c20b0 : decide ((l1.length : Int) ≤ ((rd_T87 l2 x9_2).f0)) = true := decide_eq_true c20
         clear c20
         simp only [Option.some.injEq, Prod.mk.injEq] at H
         obtain ⟨rfl, rfl⟩ := H
         try go_wp2
         have n0_ := Aside0.mk (Kd.R_drew HO_8.out)
         have n1_ := Aside0.mk (blk_drew BK510.out)
         have n2_ := Aside0.mk (below_drew1 HB.out)
         clear HO_8
         clear BK510
         clear HB
         have HO_8 := n0_
         have BK510 := n1_
         have HB := n2_
         clear n0_ n1_ n2_
         have p519 : 0 ≤ (x9_2 : Int) := of_decide_eq_true (by first | (with_reducible assumption) | assumption)
         have q519 : x9_2 < (l2.length : Int) := of_decide_eq_true (by first | (with_reducible assumption) | assumption)
         obtain ⟨ad519, e519, hx519_0, hx519_1⟩ := at_T87 HR2.out x9_2 p519 q519
         have hw519_1 := hx519_1
         have hw519_0 := hx519_0
         cases e519
         replace hx519_0 := (HB.out.cell (World.block_lt_of_cell? w _ hx519_0)).trans hx519_0
         replace hx519_1 := (HB.out.cell (World.block_lt_of_cell? w _ hx519_1)).trans hx519_1
         replace p519 := eq_true p519
         replace q519 := eq_true q519
         refine start_ (n := 24) (S := fun w' => w'.cell? (ad519.add ((x9_2).toNat * 2)) = some (.int .i64 ((rd_T87 l2 x9_2).f0)) ∧ w'.cell? ⟨(ad519.add ((x9_2).toNat * 2)).block, (ad519.add ((x9_2).toNat * 2)).off + 1, none⟩ = some (.bool ((rd_T87 l2 x9_2).f1))) (ds := []) (bz 24 0) (by kernel_rfl) rfl rfl ⟨((HB.out.cell (World.block_lt_of_cell? w _ hw519_0)).trans hw519_0), ((HB.out.cell (World.block_lt_of_cell? w _ hw519_1)).trans hw519_1)⟩ (fun hHeld => ?_); refine with_tabW spec_OrderRun.tab7 spec_OrderRun.bits7 (fun HT_ HW_ => ?_)
         generalize wr.drew = w21 at HO_8 BK510 HB hx519_0 hx519_1 hHeld ⊢
         refine pure_ (i := 0) (N := some 28) (v := ?_) (a' := ?_) (bz 24 1) rfl rfl (any_of HT_.out (by kernel_rfl)) (fun _ _ _ h => h) (Or.inl ⟨by rfl, ?_⟩) ?_ ?_
         rotate_left
         ·intro w'
          go_simp
          with_reducible rfl
         rotate_left
         ·simp only [Act.put, List.setIfInBounds_toArray, List.set_cons_zero, List.set_cons_succ, i64_w, i32_w]
          rfl
         refine pure_ (i := 1) (N := some 29) (v := ?_) (a' := ?_) (bz 24 3) rfl rfl (any_of HT_.out (by kernel_rfl)) (fun _ _ _ h => h) (Or.inl ⟨by rfl, ?_⟩) ?_ ?_
         rotate_left
         ·intro w'
          go_simp
          with_reducible rfl
         rotate_left
         ·simp only [Act.put, List.setIfInBounds_toArray, List.set_cons_zero, List.set_cons_succ, i64_w, i32_w]
          rfl
         refine pure_ (i := 2) (N := some 30) (v := ?_) (a' := ?_) (bz 24 7) rfl rfl (any_of HT_.out (by kernel_rfl)) (fun _ _ _ h => h) (Or.inl ⟨by rfl, ?_⟩) ?_ ?_
         rotate_left
         ·intro w'
          go_simp
          with_reducible rfl
         rotate_left
         ·simp only [Act.put, List.setIfInBounds_toArray, List.set_cons_zero, List.set_cons_succ, i64_w, i32_w]
          rfl
         refine pure_ (i := 3) (N := some 31) (v := ?_) (a' := ?_) (bz 24 15) rfl rfl (any_of HT_.out (by kernel_rfl)) (fun _ _ _ h => h) (Or.inl ⟨by rfl, ?_⟩) ?_ ?_
         rotate_left
         ·intro w'
          go_simp
          with_reducible rfl
         rotate_left
         ·simp only [Act.put, List.setIfInBounds_toArray, List.set_cons_zero, List.set_cons_succ, i64_w, i32_w]
          rfl
         refine pure_ (i := 5) (N := some 33) (v := ?_) (a' := ?_) (bz 24 47) rfl rfl (any_of HT_.out (by kernel_rfl)) (fun _ _ _ h => h) (Or.inl ⟨by rfl, ?_⟩) ?_ ?_
         rotate_left
         ·intro w'
          go_simp
          with_reducible rfl
         rotate_left
         ·simp only [Act.put, List.setIfInBounds_toArray, List.set_cons_zero, List.set_cons_succ, i64_w, i32_w]
          rfl
         refine pure_ (i := 6) (N := some 34) (v := ?_) (a' := ?_) (bz 24 111) rfl rfl (any_of HT_.out (by kernel_rfl)) (fun _ _ _ h => h) (Or.inl ⟨by rfl, ?_⟩) ?_ ?_
         rotate_left
         ·intro w'
          go_simp
          with_reducible rfl
         rotate_left
         ·simp only [Act.put, List.setIfInBounds_toArray, List.set_cons_zero, List.set_cons_succ, i64_w, i32_w]
          rfl
         refine take_ (i := 4) (N := some 32) (v := ?_) (a' := ?_) (bz 24 127) rfl rfl (take_ofW HT_.out HW_.out (by kernel_rfl)) (fun _ _ _ h => h) (Or.inl ⟨by rfl, ?_⟩) hHeld ?_ ?_
         rotate_left
         ·rintro w' ⟨s0, s1⟩
          go_simp
          with_reducible rfl
         rotate_left
         ·simp only [Act.put, List.setIfInBounds_toArray, List.set_cons_zero, List.set_cons_succ, i64_w, i32_w]
          rfl
         refine pure_ (i := 7) (N := some 35) (v := ?_) (a' := ?_) (bz 24 255) rfl rfl (any_of HT_.out (by kernel_rfl)) (fun _ _ _ h => h) (Or.inl ⟨by rfl, ?_⟩) ?_ ?_
         rotate_left
         ·intro w'
          go_simp
          with_reducible rfl
         rotate_left
         ·simp only [Act.put, List.setIfInBounds_toArray, List.set_cons_zero, List.set_cons_succ, i64_w, i32_w]
          rfl
         refine pure_ (i := 8) (N := some 36) (v := ?_) (a' := ?_) (bz 24 511) rfl rfl (any_of HT_.out (by kernel_rfl)) (fun _ _ _ h => h) (Or.inl ⟨by rfl, ?_⟩) ?_ ?_
         rotate_left
         ·intro w'
          go_simp
          with_reducible rfl
         rotate_left
         ·simp only [Act.put, List.setIfInBounds_toArray, List.set_cons_zero, List.set_cons_succ, i64_w, i32_w]
          rfl
         refine pure_ (i := 9) (N := some 37) (v := undef) (a' := ?_) (bz 24 1023) rfl rfl (any_of HT_.out (by kernel_rfl)) (fun _ _ _ h => h) (Or.inr ⟨by rfl, rfl⟩) ?_ ?_
         rotate_left
         ·simp only [Act.put, List.setIfInBounds_toArray, List.set_cons_zero, List.set_cons_succ, i64_w, i32_w]
          rfl
         refine pure_ (i := 10) (N := some 38) (v := undef) (a' := ?_) (bz 24 2047) rfl rfl (any_of HT_.out (by kernel_rfl)) (fun _ _ _ h => h) (Or.inr ⟨by rfl, rfl⟩) ?_ ?_
         rotate_left
         ·simp only [Act.put, List.setIfInBounds_toArray, List.set_cons_zero, List.set_cons_succ, i64_w, i32_w]
          rfl
         refine pure_ (i := 11) (N := some 39) (v := undef) (a' := ?_) (bz 24 4095) rfl rfl (any_of HT_.out (by kernel_rfl)) (fun _ _ _ h => h) (Or.inr ⟨by rfl, rfl⟩) ?_ ?_
         rotate_left
         ·simp only [Act.put, List.setIfInBounds_toArray, List.set_cons_zero, List.set_cons_succ, i64_w, i32_w]
          rfl
         refine pure_ (i := 12) (N := some 40) (v := undef) (a' := ?_) (bz 24 8191) rfl rfl (any_of HT_.out (by kernel_rfl)) (fun _ _ _ h => h) (Or.inr ⟨by rfl, rfl⟩) ?_ ?_
         rotate_left
         ·simp only [Act.put, List.setIfInBounds_toArray, List.set_cons_zero, List.set_cons_succ, i64_w, i32_w]
          rfl
         refine pure_ (i := 13) (N := some 41) (v := undef) (a' := ?_) (bz 24 16383) rfl rfl (any_of HT_.out (by kernel_rfl)) (fun _ _ _ h => h) (Or.inr ⟨by rfl, rfl⟩) ?_ ?_
         rotate_left
         ·simp only [Act.put, List.setIfInBounds_toArray, List.set_cons_zero, List.set_cons_succ, i64_w, i32_w]
          rfl
         refine pure_ (i := 14) (N := some 42) (v := undef) (a' := ?_) (bz 24 32767) rfl rfl (any_of HT_.out (by kernel_rfl)) (fun _ _ _ h => h) (Or.inr ⟨by rfl, rfl⟩) ?_ ?_
         rotate_left
         ·simp only [Act.put, List.setIfInBounds_toArray, List.set_cons_zero, List.set_cons_succ, i64_w, i32_w]
          rfl
         refine pure_ (i := 15) (N := some 43) (v := undef) (a' := ?_) (bz 24 65535) rfl rfl (any_of HT_.out (by kernel_rfl)) (fun _ _ _ h => h) (Or.inr ⟨by rfl, rfl⟩) ?_ ?_
         rotate_left
         ·simp only [Act.put, List.setIfInBounds_toArray, List.set_cons_zero, List.set_cons_succ, i64_w, i32_w]
          rfl
         refine pure_ (i := 16) (N := some 44) (v := undef) (a' := ?_) (bz 24 131071) rfl rfl (any_of HT_.out (by kernel_rfl)) (fun _ _ _ h => h) (Or.inr ⟨by rfl, rfl⟩) ?_ ?_
         rotate_left
         ·simp only [Act.put, List.setIfInBounds_toArray, List.set_cons_zero, List.set_cons_succ, i64_w, i32_w]
          rfl
         refine pure_ (i := 17) (N := some 45) (v := undef) (a' := ?_) (bz 24 262143) rfl rfl (any_of HT_.out (by kernel_rfl)) (fun _ _ _ h => h) (Or.inr ⟨by rfl, rfl⟩) ?_ ?_
         rotate_left
         ·simp only [Act.put, List.setIfInBounds_toArray, List.set_cons_zero, List.set_cons_succ, i64_w, i32_w]
          rfl
         refine pure_ (i := 18) (N := some 46) (v := undef) (a' := ?_) (bz 24 524287) rfl rfl (any_of HT_.out (by kernel_rfl)) (fun _ _ _ h => h) (Or.inr ⟨by rfl, rfl⟩) ?_ ?_
         rotate_left
         ·simp only [Act.put, List.setIfInBounds_toArray, List.set_cons_zero, List.set_cons_succ, i64_w, i32_w]
          rfl
         refine pure_ (i := 19) (N := some 47) (v := undef) (a' := ?_) (bz 24 1048575) rfl rfl (any_of HT_.out (by kernel_rfl)) (fun _ _ _ h => h) (Or.inr ⟨by rfl, rfl⟩) ?_ ?_
         rotate_left
         ·simp only [Act.put, List.setIfInBounds_toArray, List.set_cons_zero, List.set_cons_succ, i64_w, i32_w]
          rfl
         refine pure_ (i := 20) (N := some 48) (v := undef) (a' := ?_) (bz 24 2097151) rfl rfl (any_of HT_.out (by kernel_rfl)) (fun _ _ _ h => h) (Or.inr ⟨by rfl, rfl⟩) ?_ ?_
         rotate_left
         ·simp only [Act.put, List.setIfInBounds_toArray, List.set_cons_zero, List.set_cons_succ, i64_w, i32_w]
          rfl
         refine pure_ (i := 21) (N := some 49) (v := undef) (a' := ?_) (bz 24 4194303) rfl rfl (any_of HT_.out (by kernel_rfl)) (fun _ _ _ h => h) (Or.inr ⟨by rfl, rfl⟩) ?_ ?_
         rotate_left
         ·simp only [Act.put, List.setIfInBounds_toArray, List.set_cons_zero, List.set_cons_succ, i64_w, i32_w]
          rfl
         refine pure_ (i := 22) (N := some 50) (v := undef) (a' := ?_) (bz 24 8388607) rfl rfl (any_of HT_.out (by kernel_rfl)) (fun _ _ _ h => h) (Or.inr ⟨by rfl, rfl⟩) ?_ ?_
         rotate_left
         ·simp only [Act.put, List.setIfInBounds_toArray, List.set_cons_zero, List.set_cons_succ, i64_w, i32_w]
          rfl
         refine pure_ (i := 23) (N := some 51) (v := ?_) (a' := ?_) (bz 24 16777215) rfl rfl (any_of HT_.out (by kernel_rfl)) (fun _ _ _ h => h) (Or.inl ⟨by rfl, ?_⟩) ?_ ?_
         rotate_left
         ·intro w'
          go_simp
          with_reducible rfl
         rotate_left
         ·simp only [Act.put, List.setIfInBounds_toArray, List.set_cons_zero, List.set_cons_succ, i64_w, i32_w]
          rfl
         refine done_ (done_of HT_.out (by kernel_rfl)) ?_
         try go_wp2
         go_ret2
         exact ⟨_, by first | rfl | (simp [errW_none, errW_some] <;> rfl) | (simp [*, errW_none, errW_some] <;> rfl), rk HO_8, bw⟩
        ·rw [if_neg c20] at H
         have c20b0 : decide ((l1.length : Int) ≤ ((rd_T87 l2 x9_2).f0)) = false := decide_eq_false c20
         clear c20
         by_cases c22 : 0 ≤ ((rd_T87 l2 x9_2).f0)
         ·rw [if_pos c22] at H
          have c22b0 : decide (0 ≤ ((rd_T87 l2 x9_2).f0)) = true := decide_eq_true c22
          clear c22
          by_cases c23 : ((rd_T87 l2 x9_2).f0) < (x8_2.length : Int)
          ·rw [if_pos c23] at H
           have c23b0 : decide (((rd_T87 l2 x9_2).f0) < (x8_2.length : Int)) = true := decide_eq_true c23
           clear c23
           by_cases c24 : ((rdOf false x8_2 ((rd_T87 l2 x9_2).f0)) == ((rd_T87 l2 x9_2).f1)) = true
           ·rw [if_pos c24] at H
            have c24b0 : ((rdOf false x8_2 ((rd_T87 l2 x9_2).f0)) == ((rd_T87 l2 x9_2).f1)) = true := c24
            (try (have c24b1 : decide ((rdOf false x8_2 ((rd_T87 l2 x9_2).f0)) = ((rd_T87 l2 x9_2).f1)) = true := by simpa using c24))
            (try (have c24b2 : ((rdOf false x8_2 ((rd_T87 l2 x9_2).f0)) == ((rd_T87 l2 x9_2).f1)) = true := by simpa using c24))
            clear c24
            simp only [Option.some.injEq, Prod.mk.injEq] at H
            obtain ⟨rfl, rfl⟩ := H
            try go_wp2
            have n0_ := Aside0.mk (Kd.R_drew HO_8.out)
            have n1_ := Aside0.mk (blk_drew BK510.out)
            have n2_ := Aside0.mk (below_drew1 HB.out)
            clear HO_8
            clear BK510
            clear HB
            have HO_8 := n0_
            have BK510 := n1_
            have HB := n2_
            clear n0_ n1_ n2_
            have p519 : 0 ≤ (x9_2 : Int) := of_decide_eq_true (by first | (with_reducible assumption) | assumption)
            have q519 : x9_2 < (l2.length : Int) := of_decide_eq_true (by first | (with_reducible assumption) | assumption)
            obtain ⟨ad519, e519, hx519_0, hx519_1⟩ := at_T87 HR2.out x9_2 p519 q519
            have hw519_1 := hx519_1
            have hw519_0 := hx519_0
            cases e519
            replace hx519_0 := (HB.out.cell (World.block_lt_of_cell? w _ hx519_0)).trans hx519_0
            replace hx519_1 := (HB.out.cell (World.block_lt_of_cell? w _ hx519_1)).trans hx519_1
            replace p519 := eq_true p519
            replace q519 := eq_true q519
            have p520 : 0 ≤ (x9_2 : Int) := of_decide_eq_true (by first | (with_reducible assumption) | assumption)
            have q520 : x9_2 < (l2.length : Int) := of_decide_eq_true (by first | (with_reducible assumption) | assumption)
            obtain ⟨ad520, e520, hx520_0, hx520_1⟩ := at_T87 HR2.out x9_2 p520 q520
            have hw520_1 := hx520_1
            have hw520_0 := hx520_0
            obtain rfl : ad519 = ad520 := (by injection e520)
            replace hx520_0 := (HB.out.cell (World.block_lt_of_cell? w _ hx520_0)).trans hx520_0
            replace hx520_1 := (HB.out.cell (World.block_lt_of_cell? w _ hx520_1)).trans hx520_1
            replace p520 := eq_true p520
            replace q520 := eq_true q520
            obtain ⟨Ao26, co26, eo26⟩ := Kd.R_slice HO_8.out
            (first | subst eo26 | (injection eo26 with f1_ f2_ f3_; have f4_ := f1_.symm; have f5_ := f3_.symm; clear f1_ f2_ f3_; subst f4_; subst f5_))
            have p521 : 0 ≤ (((rd_T87 l2 x9_2).f0) : Int) := of_decide_eq_true (by first | (with_reducible assumption) | assumption)
            have q521 : ((rd_T87 l2 x9_2).f0) < (x8_2.length : Int) := of_decide_eq_true (by first | (with_reducible assumption) | assumption)
            obtain ⟨ad521, e521, hx521_0⟩ := Kd.at_bool (Kd.R_reads' HO_8.out).2.2 ((rd_T87 l2 x9_2).f0) p521 q521
            cases e521
            replace p521 := eq_true p521
            replace q521 := eq_true q521
            have p522 : 0 ≤ (x9_2 : Int) := of_decide_eq_true (by first | (with_reducible assumption) | assumption)
            have q522 : x9_2 < (l2.length : Int) := of_decide_eq_true (by first | (with_reducible assumption) | assumption)
            obtain ⟨ad522, e522, hx522_0, hx522_1⟩ := at_T87 HR2.out x9_2 p522 q522
            have hw522_1 := hx522_1
            have hw522_0 := hx522_0
            obtain rfl : ad519 = ad522 := (by injection e522)
            replace hx522_0 := (HB.out.cell (World.block_lt_of_cell? w _ hx522_0)).trans hx522_0
            replace hx522_1 := (HB.out.cell (World.block_lt_of_cell? w _ hx522_1)).trans hx522_1
            replace p522 := eq_true p522
            replace q522 := eq_true q522
            refine start_ (n := 24) (S := fun w' => w'.cell? (ad519.add ((x9_2).toNat * 2)) = some (.int .i64 ((rd_T87 l2 x9_2).f0)) ∧ w'.cell? ⟨(ad519.add ((x9_2).toNat * 2)).block, (ad519.add ((x9_2).toNat * 2)).off + 1, none⟩ = some (.bool ((rd_T87 l2 x9_2).f1)) ∧ w'.cell? (ad519.add ((x9_2).toNat * 2)) = some (.int .i64 ((rd_T87 l2 x9_2).f0)) ∧ w'.cell? ⟨(ad519.add ((x9_2).toNat * 2)).block, (ad519.add ((x9_2).toNat * 2)).off + 1, none⟩ = some (.bool ((rd_T87 l2 x9_2).f1)) ∧ w'.cell? (ad521.add (((rd_T87 l2 x9_2).f0)).toNat) = some (.bool (rdOf false x8_2 ((rd_T87 l2 x9_2).f0))) ∧ w'.cell? (ad519.add ((x9_2).toNat * 2)) = some (.int .i64 ((rd_T87 l2 x9_2).f0)) ∧ w'.cell? ⟨(ad519.add ((x9_2).toNat * 2)).block, (ad519.add ((x9_2).toNat * 2)).off + 1, none⟩ = some (.bool ((rd_T87 l2 x9_2).f1))) (ds := []) (bz 24 0) (by kernel_rfl) rfl rfl ⟨((HB.out.cell (World.block_lt_of_cell? w _ hw519_0)).trans hw519_0), ((HB.out.cell (World.block_lt_of_cell? w _ hw519_1)).trans hw519_1), ((HB.out.cell (World.block_lt_of_cell? w _ hw520_0)).trans hw520_0), ((HB.out.cell (World.block_lt_of_cell? w _ hw520_1)).trans hw520_1), hx521_0, ((HB.out.cell (World.block_lt_of_cell? w _ hw522_0)).trans hw522_0), ((HB.out.cell (World.block_lt_of_cell? w _ hw522_1)).trans hw522_1)⟩ (fun hHeld => ?_); refine with_tabW spec_OrderRun.tab7 spec_OrderRun.bits7 (fun HT_ HW_ => ?_)
            generalize wr.drew = w25 at HO_8 BK510 HB hx519_0 hx519_1 hx520_0 hx520_1 hx521_0 hx522_0 hx522_1 hHeld ⊢
            refine pure_ (i := 0) (N := some 28) (v := ?_) (a' := ?_) (bz 24 1) rfl rfl (any_of HT_.out (by kernel_rfl)) (fun _ _ _ h => h) (Or.inl ⟨by rfl, ?_⟩) ?_ ?_
            rotate_left
            ·intro w'
             go_simp
             with_reducible rfl
            rotate_left
            ·simp only [Act.put, List.setIfInBounds_toArray, List.set_cons_zero, List.set_cons_succ, i64_w, i32_w]
             rfl
            refine pure_ (i := 1) (N := some 29) (v := ?_) (a' := ?_) (bz 24 3) rfl rfl (any_of HT_.out (by kernel_rfl)) (fun _ _ _ h => h) (Or.inl ⟨by rfl, ?_⟩) ?_ ?_
            rotate_left
            ·intro w'
             go_simp
             with_reducible rfl
            rotate_left
            ·simp only [Act.put, List.setIfInBounds_toArray, List.set_cons_zero, List.set_cons_succ, i64_w, i32_w]
             rfl
            refine pure_ (i := 2) (N := some 30) (v := ?_) (a' := ?_) (bz 24 7) rfl rfl (any_of HT_.out (by kernel_rfl)) (fun _ _ _ h => h) (Or.inl ⟨by rfl, ?_⟩) ?_ ?_
            rotate_left
            ·intro w'
             go_simp
             with_reducible rfl
            rotate_left
            ·simp only [Act.put, List.setIfInBounds_toArray, List.set_cons_zero, List.set_cons_succ, i64_w, i32_w]
             rfl
            refine pure_ (i := 3) (N := some 31) (v := ?_) (a' := ?_) (bz 24 15) rfl rfl (any_of HT_.out (by kernel_rfl)) (fun _ _ _ h => h) (Or.inl ⟨by rfl, ?_⟩) ?_ ?_
            rotate_left
            ·intro w'
             go_simp
             with_reducible rfl
            rotate_left
            ·simp only [Act.put, List.setIfInBounds_toArray, List.set_cons_zero, List.set_cons_succ, i64_w, i32_w]
             rfl
            refine pure_ (i := 5) (N := some 33) (v := ?_) (a' := ?_) (bz 24 47) rfl rfl (any_of HT_.out (by kernel_rfl)) (fun _ _ _ h => h) (Or.inl ⟨by rfl, ?_⟩) ?_ ?_
            rotate_left
            ·intro w'
             go_simp
             with_reducible rfl
            rotate_left
            ·simp only [Act.put, List.setIfInBounds_toArray, List.set_cons_zero, List.set_cons_succ, i64_w, i32_w]
             rfl
            refine pure_ (i := 6) (N := some 34) (v := ?_) (a' := ?_) (bz 24 111) rfl rfl (any_of HT_.out (by kernel_rfl)) (fun _ _ _ h => h) (Or.inl ⟨by rfl, ?_⟩) ?_ ?_
            rotate_left
            ·intro w'
             go_simp
             with_reducible rfl
            rotate_left
            ·simp only [Act.put, List.setIfInBounds_toArray, List.set_cons_zero, List.set_cons_succ, i64_w, i32_w]
             rfl
            refine take_ (i := 4) (N := some 32) (v := ?_) (a' := ?_) (bz 24 127) rfl rfl (take_ofW HT_.out HW_.out (by kernel_rfl)) (fun _ _ _ h => h) (Or.inl ⟨by rfl, ?_⟩) hHeld ?_ ?_
            rotate_left
            ·rintro w' ⟨s0, s1, s2, s3, s4, s5, s6⟩
             go_simp
             with_reducible rfl
            rotate_left
            ·simp only [Act.put, List.setIfInBounds_toArray, List.set_cons_zero, List.set_cons_succ, i64_w, i32_w]
             rfl
            refine pure_ (i := 7) (N := some 35) (v := ?_) (a' := ?_) (bz 24 255) rfl rfl (any_of HT_.out (by kernel_rfl)) (fun _ _ _ h => h) (Or.inl ⟨by rfl, ?_⟩) ?_ ?_
            rotate_left
            ·intro w'
             go_simp
             with_reducible rfl
            rotate_left
            ·simp only [Act.put, List.setIfInBounds_toArray, List.set_cons_zero, List.set_cons_succ, i64_w, i32_w]
             rfl
            refine pure_ (i := 8) (N := some 36) (v := ?_) (a' := ?_) (bz 24 511) rfl rfl (any_of HT_.out (by kernel_rfl)) (fun _ _ _ h => h) (Or.inl ⟨by rfl, ?_⟩) ?_ ?_
            rotate_left
            ·intro w'
             go_simp
             with_reducible rfl
            rotate_left
            ·simp only [Act.put, List.setIfInBounds_toArray, List.set_cons_zero, List.set_cons_succ, i64_w, i32_w]
             rfl
            refine pure_ (i := 9) (N := some 37) (v := ?_) (a' := ?_) (bz 24 1023) rfl rfl (any_of HT_.out (by kernel_rfl)) (fun _ _ _ h => h) (Or.inl ⟨by rfl, ?_⟩) ?_ ?_
            rotate_left
            ·intro w'
             go_simp
             with_reducible rfl
            rotate_left
            ·simp only [Act.put, List.setIfInBounds_toArray, List.set_cons_zero, List.set_cons_succ, i64_w, i32_w]
             rfl
            refine pure_ (i := 10) (N := some 38) (v := ?_) (a' := ?_) (bz 24 2047) rfl rfl (any_of HT_.out (by kernel_rfl)) (fun _ _ _ h => h) (Or.inl ⟨by rfl, ?_⟩) ?_ ?_
            rotate_left
            ·intro w'
             go_simp
             with_reducible rfl
            rotate_left
            ·simp only [Act.put, List.setIfInBounds_toArray, List.set_cons_zero, List.set_cons_succ, i64_w, i32_w]
             rfl
            refine pure_ (i := 11) (N := some 39) (v := ?_) (a' := ?_) (bz 24 4095) rfl rfl (any_of HT_.out (by kernel_rfl)) (fun _ _ _ h => h) (Or.inl ⟨by rfl, ?_⟩) ?_ ?_
            rotate_left
            ·intro w'
             go_simp
             with_reducible rfl
            rotate_left
            ·simp only [Act.put, List.setIfInBounds_toArray, List.set_cons_zero, List.set_cons_succ, i64_w, i32_w]
             rfl
            refine pure_ (i := 12) (N := some 40) (v := ?_) (a' := ?_) (bz 24 8191) rfl rfl (any_of HT_.out (by kernel_rfl)) (fun _ _ _ h => h) (Or.inl ⟨by rfl, ?_⟩) ?_ ?_
            rotate_left
            ·intro w'
             go_simp
             with_reducible rfl
            rotate_left
            ·simp only [Act.put, List.setIfInBounds_toArray, List.set_cons_zero, List.set_cons_succ, i64_w, i32_w]
             rfl
            refine pure_ (i := 13) (N := some 41) (v := ?_) (a' := ?_) (bz 24 16383) rfl rfl (any_of HT_.out (by kernel_rfl)) (fun _ _ _ h => h) (Or.inl ⟨by rfl, ?_⟩) ?_ ?_
            rotate_left
            ·intro w'
             go_simp
             with_reducible rfl
            rotate_left
            ·simp only [Act.put, List.setIfInBounds_toArray, List.set_cons_zero, List.set_cons_succ, i64_w, i32_w]
             rfl
            refine pure_ (i := 17) (N := some 45) (v := ?_) (a' := ?_) (bz 24 147455) rfl rfl (any_of HT_.out (by kernel_rfl)) (fun _ _ _ h => h) (Or.inl ⟨by rfl, ?_⟩) ?_ ?_
            rotate_left
            ·intro w'
             go_simp
             with_reducible rfl
            rotate_left
            ·simp only [Act.put, List.setIfInBounds_toArray, List.set_cons_zero, List.set_cons_succ, i64_w, i32_w]
             rfl
            refine pure_ (i := 18) (N := some 46) (v := ?_) (a' := ?_) (bz 24 409599) rfl rfl (any_of HT_.out (by kernel_rfl)) (fun _ _ _ h => h) (Or.inl ⟨by rfl, ?_⟩) ?_ ?_
            rotate_left
            ·intro w'
             go_simp
             with_reducible rfl
            rotate_left
            ·simp only [Act.put, List.setIfInBounds_toArray, List.set_cons_zero, List.set_cons_succ, i64_w, i32_w]
             rfl
            refine pure_ (i := 19) (N := some 47) (v := ?_) (a' := ?_) (bz 24 933887) rfl rfl (any_of HT_.out (by kernel_rfl)) (fun _ _ _ h => h) (Or.inl ⟨by rfl, ?_⟩) ?_ ?_
            rotate_left
            ·intro w'
             go_simp
             with_reducible rfl
            rotate_left
            ·simp only [Act.put, List.setIfInBounds_toArray, List.set_cons_zero, List.set_cons_succ, i64_w, i32_w]
             rfl
            refine pure_ (i := 20) (N := some 48) (v := ?_) (a' := ?_) (bz 24 1982463) rfl rfl (any_of HT_.out (by kernel_rfl)) (fun _ _ _ h => h) (Or.inl ⟨by rfl, ?_⟩) ?_ ?_
            rotate_left
            ·intro w'
             go_simp
             with_reducible rfl
            rotate_left
            ·simp only [Act.put, List.setIfInBounds_toArray, List.set_cons_zero, List.set_cons_succ, i64_w, i32_w]
             rfl
            refine take_ (i := 14) (N := some 42) (v := ?_) (a' := ?_) (bz 24 1998847) rfl rfl (take_ofW HT_.out HW_.out (by kernel_rfl)) (fun _ _ _ h => h) (Or.inl ⟨by rfl, ?_⟩) hHeld ?_ ?_
            rotate_left
            ·rintro w' ⟨s0, s1, s2, s3, s4, s5, s6⟩
             go_simp
             with_reducible rfl
            rotate_left
            ·simp only [Act.put, List.setIfInBounds_toArray, List.set_cons_zero, List.set_cons_succ, i64_w, i32_w]
             rfl
            refine pure_ (i := 15) (N := some 43) (v := ?_) (a' := ?_) (bz 24 2031615) rfl rfl (any_of HT_.out (by kernel_rfl)) (fun _ _ _ h => h) (Or.inl ⟨by rfl, ?_⟩) ?_ ?_
            rotate_left
            ·intro w'
             go_simp
             with_reducible rfl
            rotate_left
            ·simp only [Act.put, List.setIfInBounds_toArray, List.set_cons_zero, List.set_cons_succ, i64_w, i32_w]
             rfl
            refine take_ (i := 16) (N := some 44) (v := ?_) (a' := ?_) (bz 24 2097151) rfl rfl (take_ofW HT_.out HW_.out (by kernel_rfl)) (fun _ _ _ h => h) (Or.inl ⟨by rfl, ?_⟩) hHeld ?_ ?_
            rotate_left
            ·rintro w' ⟨s0, s1, s2, s3, s4, s5, s6⟩
             go_simp
             with_reducible rfl
            rotate_left
            ·simp only [Act.put, List.setIfInBounds_toArray, List.set_cons_zero, List.set_cons_succ, i64_w, i32_w]
             rfl
            refine take_ (i := 21) (N := some 49) (v := ?_) (a' := ?_) (bz 24 4194303) rfl rfl (take_ofW HT_.out HW_.out (by kernel_rfl)) (fun _ _ _ h => h) (Or.inl ⟨by rfl, ?_⟩) hHeld ?_ ?_
            rotate_left
            ·rintro w' ⟨s0, s1, s2, s3, s4, s5, s6⟩
             go_simp
             with_reducible rfl
            rotate_left
            ·simp only [Act.put, List.setIfInBounds_toArray, List.set_cons_zero, List.set_cons_succ, i64_w, i32_w]
             rfl
            refine pure_ (i := 22) (N := some 50) (v := ?_) (a' := ?_) (bz 24 8388607) rfl rfl (any_of HT_.out (by kernel_rfl)) (fun _ _ _ h => h) (Or.inl ⟨by rfl, ?_⟩) ?_ ?_
            rotate_left
            ·intro w'
             go_simp
             with_reducible rfl
            rotate_left
            ·simp only [Act.put, List.setIfInBounds_toArray, List.set_cons_zero, List.set_cons_succ, i64_w, i32_w]
             rfl
            refine pure_ (i := 23) (N := some 51) (v := ?_) (a' := ?_) (bz 24 16777215) rfl rfl (any_of HT_.out (by kernel_rfl)) (fun _ _ _ h => h) (Or.inl ⟨by rfl, ?_⟩) ?_ ?_
            rotate_left
            ·intro w'
             go_simp
             with_reducible rfl
            rotate_left
            ·simp only [Act.put, List.setIfInBounds_toArray, List.set_cons_zero, List.set_cons_succ, i64_w, i32_w]
             rfl
            refine done_ (done_of HT_.out (by kernel_rfl)) ?_
            try go_wp2
            go_ret2
            exact ⟨_, by first | rfl | (simp [errW_none, errW_some] <;> rfl) | (simp [*, errW_none, errW_some] <;> rfl), rk HO_8, bw⟩
           ·rw [if_neg c24] at H
            have c24b0 : ((rdOf false x8_2 ((rd_T87 l2 x9_2).f0)) == ((rd_T87 l2 x9_2).f1)) = false := by simpa using c24
            (try (have c24b1 : decide ((rdOf false x8_2 ((rd_T87 l2 x9_2).f0)) = ((rd_T87 l2 x9_2).f1)) = false := by simpa using c24))
            (try (have c24b2 : ((rdOf false x8_2 ((rd_T87 l2 x9_2).f0)) == ((rd_T87 l2 x9_2).f1)) = false := by simpa using c24))
            (try (have c24b3 : ¬ ((rdOf false x8_2 ((rd_T87 l2 x9_2).f0)) = ((rd_T87 l2 x9_2).f1)) := by simpa using c24))
            clear c24
            obtain ⟨y525, hy525⟩ : ∃ y_ : List Bool, y_ = (x8_2.set (((rd_T87 l2 x9_2).f0) : Int).toNat ((rd_T87 l2 x9_2).f1)) := ⟨_, rfl⟩
            replace H : (spec_OrderRun.l0 k2 l1 l2 y525 (wrap64 (x9_2 + 1))) = some (r1, r2) := by first | (rw [hy525]; with_reducible exact H) | (have H2_ := (Option.bind_some _ _).symm.trans H; rw [hy525]; with_reducible exact H2_) | (have H2_ := (Option.bind_some _ _).symm.trans H; with_reducible exact H2_) | with_reducible exact H | (rw [hy525]; exact H) | exact H
            have Ny525 := Aside0.mk hy525
            clear hy525
            have H' := Aside0.mk H
            clear H
            try go_wp2
            have n0_ := Aside0.mk (Kd.R_drew HO_8.out)
            have n1_ := Aside0.mk (blk_drew BK510.out)
            have n2_ := Aside0.mk (below_drew1 HB.out)
            clear HO_8
            clear BK510
            clear HB
            have HO_8 := n0_
            have BK510 := n1_
            have HB := n2_
            clear n0_ n1_ n2_
            have p519 : 0 ≤ (x9_2 : Int) := of_decide_eq_true (by first | (with_reducible assumption) | assumption)
            have q519 : x9_2 < (l2.length : Int) := of_decide_eq_true (by first | (with_reducible assumption) | assumption)
            obtain ⟨ad519, e519, hx519_0, hx519_1⟩ := at_T87 HR2.out x9_2 p519 q519
            have hw519_1 := hx519_1
            have hw519_0 := hx519_0
            cases e519
            replace hx519_0 := (HB.out.cell (World.block_lt_of_cell? w _ hx519_0)).trans hx519_0
            replace hx519_1 := (HB.out.cell (World.block_lt_of_cell? w _ hx519_1)).trans hx519_1
            replace p519 := eq_true p519
            replace q519 := eq_true q519
            have p520 : 0 ≤ (x9_2 : Int) := of_decide_eq_true (by first | (with_reducible assumption) | assumption)
            have q520 : x9_2 < (l2.length : Int) := of_decide_eq_true (by first | (with_reducible assumption) | assumption)
            obtain ⟨ad520, e520, hx520_0, hx520_1⟩ := at_T87 HR2.out x9_2 p520 q520
            have hw520_1 := hx520_1
            have hw520_0 := hx520_0
            obtain rfl : ad519 = ad520 := (by injection e520)
            replace hx520_0 := (HB.out.cell (World.block_lt_of_cell? w _ hx520_0)).trans hx520_0
            replace hx520_1 := (HB.out.cell (World.block_lt_of_cell? w _ hx520_1)).trans hx520_1
            replace p520 := eq_true p520
            replace q520 := eq_true q520
            obtain ⟨Ao29, co29, eo29⟩ := Kd.R_slice HO_8.out
            (first | subst eo29 | (injection eo29 with f1_ f2_ f3_; have f4_ := f1_.symm; have f5_ := f3_.symm; clear f1_ f2_ f3_; subst f4_; subst f5_))
            have p521 : 0 ≤ (((rd_T87 l2 x9_2).f0) : Int) := of_decide_eq_true (by first | (with_reducible assumption) | assumption)
            have q521 : ((rd_T87 l2 x9_2).f0) < (x8_2.length : Int) := of_decide_eq_true (by first | (with_reducible assumption) | assumption)
            obtain ⟨ad521, e521, hx521_0⟩ := Kd.at_bool (Kd.R_reads' HO_8.out).2.2 ((rd_T87 l2 x9_2).f0) p521 q521
            cases e521
            replace p521 := eq_true p521
            replace q521 := eq_true q521
            have p522 : 0 ≤ (x9_2 : Int) := of_decide_eq_true (by first | (with_reducible assumption) | assumption)
            have q522 : x9_2 < (l2.length : Int) := of_decide_eq_true (by first | (with_reducible assumption) | assumption)
            obtain ⟨ad522, e522, hx522_0, hx522_1⟩ := at_T87 HR2.out x9_2 p522 q522
            have hw522_1 := hx522_1
            have hw522_0 := hx522_0
            obtain rfl : ad519 = ad522 := (by injection e522)
            replace hx522_0 := (HB.out.cell (World.block_lt_of_cell? w _ hx522_0)).trans hx522_0
            replace hx522_1 := (HB.out.cell (World.block_lt_of_cell? w _ hx522_1)).trans hx522_1
            replace p522 := eq_true p522
            replace q522 := eq_true q522
            refine start_ (n := 24) (S := fun w' => w'.cell? (ad519.add ((x9_2).toNat * 2)) = some (.int .i64 ((rd_T87 l2 x9_2).f0)) ∧ w'.cell? ⟨(ad519.add ((x9_2).toNat * 2)).block, (ad519.add ((x9_2).toNat * 2)).off + 1, none⟩ = some (.bool ((rd_T87 l2 x9_2).f1)) ∧ w'.cell? (ad519.add ((x9_2).toNat * 2)) = some (.int .i64 ((rd_T87 l2 x9_2).f0)) ∧ w'.cell? ⟨(ad519.add ((x9_2).toNat * 2)).block, (ad519.add ((x9_2).toNat * 2)).off + 1, none⟩ = some (.bool ((rd_T87 l2 x9_2).f1)) ∧ w'.cell? (ad521.add (((rd_T87 l2 x9_2).f0)).toNat) = some (.bool (rdOf false x8_2 ((rd_T87 l2 x9_2).f0))) ∧ w'.cell? (ad519.add ((x9_2).toNat * 2)) = some (.int .i64 ((rd_T87 l2 x9_2).f0)) ∧ w'.cell? ⟨(ad519.add ((x9_2).toNat * 2)).block, (ad519.add ((x9_2).toNat * 2)).off + 1, none⟩ = some (.bool ((rd_T87 l2 x9_2).f1))) (ds := []) (bz 24 0) (by kernel_rfl) rfl rfl ⟨((HB.out.cell (World.block_lt_of_cell? w _ hw519_0)).trans hw519_0), ((HB.out.cell (World.block_lt_of_cell? w _ hw519_1)).trans hw519_1), ((HB.out.cell (World.block_lt_of_cell? w _ hw520_0)).trans hw520_0), ((HB.out.cell (World.block_lt_of_cell? w _ hw520_1)).trans hw520_1), hx521_0, ((HB.out.cell (World.block_lt_of_cell? w _ hw522_0)).trans hw522_0), ((HB.out.cell (World.block_lt_of_cell? w _ hw522_1)).trans hw522_1)⟩ (fun hHeld => ?_); refine with_tabW spec_OrderRun.tab7 spec_OrderRun.bits7 (fun HT_ HW_ => ?_)
            generalize wr.drew = w28 at HO_8 BK510 HB hx519_0 hx519_1 hx520_0 hx520_1 hx521_0 hx522_0 hx522_1 hHeld ⊢
            refine pure_ (i := 0) (N := some 28) (v := ?_) (a' := ?_) (bz 24 1) rfl rfl (any_of HT_.out (by kernel_rfl)) (fun _ _ _ h => h) (Or.inl ⟨by rfl, ?_⟩) ?_ ?_
            rotate_left
            ·intro w'
             go_simp
             with_reducible rfl
            rotate_left
            ·simp only [Act.put, List.setIfInBounds_toArray, List.set_cons_zero, List.set_cons_succ, i64_w, i32_w]
             rfl
            refine pure_ (i := 1) (N := some 29) (v := ?_) (a' := ?_) (bz 24 3) rfl rfl (any_of HT_.out (by kernel_rfl)) (fun _ _ _ h => h) (Or.inl ⟨by rfl, ?_⟩) ?_ ?_
            rotate_left
            ·intro w'
             go_simp
             with_reducible rfl
            rotate_left
            ·simp only [Act.put, List.setIfInBounds_toArray, List.set_cons_zero, List.set_cons_succ, i64_w, i32_w]
             rfl
            refine pure_ (i := 2) (N := some 30) (v := ?_) (a' := ?_) (bz 24 7) rfl rfl (any_of HT_.out (by kernel_rfl)) (fun _ _ _ h => h) (Or.inl ⟨by rfl, ?_⟩) ?_ ?_
            rotate_left
            ·intro w'
             go_simp
             with_reducible rfl
            rotate_left
            ·simp only [Act.put, List.setIfInBounds_toArray, List.set_cons_zero, List.set_cons_succ, i64_w, i32_w]
             rfl
            refine pure_ (i := 3) (N := some 31) (v := ?_) (a' := ?_) (bz 24 15) rfl rfl (any_of HT_.out (by kernel_rfl)) (fun _ _ _ h => h) (Or.inl ⟨by rfl, ?_⟩) ?_ ?_
            rotate_left
            ·intro w'
             go_simp
             with_reducible rfl
            rotate_left
            ·simp only [Act.put, List.setIfInBounds_toArray, List.set_cons_zero, List.set_cons_succ, i64_w, i32_w]
             rfl
            refine pure_ (i := 5) (N := some 33) (v := ?_) (a' := ?_) (bz 24 47) rfl rfl (any_of HT_.out (by kernel_rfl)) (fun _ _ _ h => h) (Or.inl ⟨by rfl, ?_⟩) ?_ ?_
            rotate_left
            ·intro w'
             go_simp
             with_reducible rfl
            rotate_left
            ·simp only [Act.put, List.setIfInBounds_toArray, List.set_cons_zero, List.set_cons_succ, i64_w, i32_w]
             rfl
            refine pure_ (i := 6) (N := some 34) (v := ?_) (a' := ?_) (bz 24 111) rfl rfl (any_of HT_.out (by kernel_rfl)) (fun _ _ _ h => h) (Or.inl ⟨by rfl, ?_⟩) ?_ ?_
            rotate_left
            ·intro w'
             go_simp
             with_reducible rfl
            rotate_left
            ·simp only [Act.put, List.setIfInBounds_toArray, List.set_cons_zero, List.set_cons_succ, i64_w, i32_w]
             rfl
            refine take_ (i := 4) (N := some 32) (v := ?_) (a' := ?_) (bz 24 127) rfl rfl (take_ofW HT_.out HW_.out (by kernel_rfl)) (fun _ _ _ h => h) (Or.inl ⟨by rfl, ?_⟩) hHeld ?_ ?_
            rotate_left
            ·rintro w' ⟨s0, s1, s2, s3, s4, s5, s6⟩
             go_simp
             with_reducible rfl
            rotate_left
            ·simp only [Act.put, List.setIfInBounds_toArray, List.set_cons_zero, List.set_cons_succ, i64_w, i32_w]
             rfl
            refine pure_ (i := 7) (N := some 35) (v := ?_) (a' := ?_) (bz 24 255) rfl rfl (any_of HT_.out (by kernel_rfl)) (fun _ _ _ h => h) (Or.inl ⟨by rfl, ?_⟩) ?_ ?_
            rotate_left
            ·intro w'
             go_simp
             with_reducible rfl
            rotate_left
            ·simp only [Act.put, List.setIfInBounds_toArray, List.set_cons_zero, List.set_cons_succ, i64_w, i32_w]
             rfl
            refine pure_ (i := 8) (N := some 36) (v := ?_) (a' := ?_) (bz 24 511) rfl rfl (any_of HT_.out (by kernel_rfl)) (fun _ _ _ h => h) (Or.inl ⟨by rfl, ?_⟩) ?_ ?_
            rotate_left
            ·intro w'
             go_simp
             with_reducible rfl
            rotate_left
            ·simp only [Act.put, List.setIfInBounds_toArray, List.set_cons_zero, List.set_cons_succ, i64_w, i32_w]
             rfl
            refine pure_ (i := 9) (N := some 37) (v := ?_) (a' := ?_) (bz 24 1023) rfl rfl (any_of HT_.out (by kernel_rfl)) (fun _ _ _ h => h) (Or.inl ⟨by rfl, ?_⟩) ?_ ?_
            rotate_left
            ·intro w'
             go_simp
             with_reducible rfl
            rotate_left
            ·simp only [Act.put, List.setIfInBounds_toArray, List.set_cons_zero, List.set_cons_succ, i64_w, i32_w]
             rfl
            refine pure_ (i := 10) (N := some 38) (v := ?_) (a' := ?_) (bz 24 2047) rfl rfl (any_of HT_.out (by kernel_rfl)) (fun _ _ _ h => h) (Or.inl ⟨by rfl, ?_⟩) ?_ ?_
            rotate_left
            ·intro w'
             go_simp
             with_reducible rfl
            rotate_left
            ·simp only [Act.put, List.setIfInBounds_toArray, List.set_cons_zero, List.set_cons_succ, i64_w, i32_w]
             rfl
            refine pure_ (i := 11) (N := some 39) (v := ?_) (a' := ?_) (bz 24 4095) rfl rfl (any_of HT_.out (by kernel_rfl)) (fun _ _ _ h => h) (Or.inl ⟨by rfl, ?_⟩) ?_ ?_
            rotate_left
            ·intro w'
             go_simp
             with_reducible rfl
            rotate_left
            ·simp only [Act.put, List.setIfInBounds_toArray, List.set_cons_zero, List.set_cons_succ, i64_w, i32_w]
             rfl
            refine pure_ (i := 12) (N := some 40) (v := ?_) (a' := ?_) (bz 24 8191) rfl rfl (any_of HT_.out (by kernel_rfl)) (fun _ _ _ h => h) (Or.inl ⟨by rfl, ?_⟩) ?_ ?_
            rotate_left
            ·intro w'
             go_simp
             with_reducible rfl
            rotate_left
            ·simp only [Act.put, List.setIfInBounds_toArray, List.set_cons_zero, List.set_cons_succ, i64_w, i32_w]
             rfl
            refine pure_ (i := 13) (N := some 41) (v := ?_) (a' := ?_) (bz 24 16383) rfl rfl (any_of HT_.out (by kernel_rfl)) (fun _ _ _ h => h) (Or.inl ⟨by rfl, ?_⟩) ?_ ?_
            rotate_left
            ·intro w'
             go_simp
             with_reducible rfl
            rotate_left
            ·simp only [Act.put, List.setIfInBounds_toArray, List.set_cons_zero, List.set_cons_succ, i64_w, i32_w]
             rfl
            refine pure_ (i := 17) (N := some 45) (v := ?_) (a' := ?_) (bz 24 147455) rfl rfl (any_of HT_.out (by kernel_rfl)) (fun _ _ _ h => h) (Or.inl ⟨by rfl, ?_⟩) ?_ ?_
            rotate_left
            ·intro w'
             go_simp
             with_reducible rfl
            rotate_left
            ·simp only [Act.put, List.setIfInBounds_toArray, List.set_cons_zero, List.set_cons_succ, i64_w, i32_w]
             rfl
            refine pure_ (i := 18) (N := some 46) (v := ?_) (a' := ?_) (bz 24 409599) rfl rfl (any_of HT_.out (by kernel_rfl)) (fun _ _ _ h => h) (Or.inl ⟨by rfl, ?_⟩) ?_ ?_
            rotate_left
            ·intro w'
             go_simp
             with_reducible rfl
            rotate_left
            ·simp only [Act.put, List.setIfInBounds_toArray, List.set_cons_zero, List.set_cons_succ, i64_w, i32_w]
             rfl
            refine pure_ (i := 19) (N := some 47) (v := ?_) (a' := ?_) (bz 24 933887) rfl rfl (any_of HT_.out (by kernel_rfl)) (fun _ _ _ h => h) (Or.inl ⟨by rfl, ?_⟩) ?_ ?_
            rotate_left
            ·intro w'
             go_simp
             with_reducible rfl
            rotate_left
            ·simp only [Act.put, List.setIfInBounds_toArray, List.set_cons_zero, List.set_cons_succ, i64_w, i32_w]
             rfl
            refine pure_ (i := 20) (N := some 48) (v := ?_) (a' := ?_) (bz 24 1982463) rfl rfl (any_of HT_.out (by kernel_rfl)) (fun _ _ _ h => h) (Or.inl ⟨by rfl, ?_⟩) ?_ ?_
            rotate_left
            ·intro w'
             go_simp
             with_reducible rfl
            rotate_left
            ·simp only [Act.put, List.setIfInBounds_toArray, List.set_cons_zero, List.set_cons_succ, i64_w, i32_w]
             rfl
            refine take_ (i := 14) (N := some 42) (v := ?_) (a' := ?_) (bz 24 1998847) rfl rfl (take_ofW HT_.out HW_.out (by kernel_rfl)) (fun _ _ _ h => h) (Or.inl ⟨by rfl, ?_⟩) hHeld ?_ ?_
            rotate_left
            ·rintro w' ⟨s0, s1, s2, s3, s4, s5, s6⟩
             go_simp
             with_reducible rfl
            rotate_left
            ·simp only [Act.put, List.setIfInBounds_toArray, List.set_cons_zero, List.set_cons_succ, i64_w, i32_w]
             rfl
            refine pure_ (i := 15) (N := some 43) (v := ?_) (a' := ?_) (bz 24 2031615) rfl rfl (any_of HT_.out (by kernel_rfl)) (fun _ _ _ h => h) (Or.inl ⟨by rfl, ?_⟩) ?_ ?_
            rotate_left
            ·intro w'
             go_simp
             with_reducible rfl
            rotate_left
            ·simp only [Act.put, List.setIfInBounds_toArray, List.set_cons_zero, List.set_cons_succ, i64_w, i32_w]
             rfl
            refine take_ (i := 16) (N := some 44) (v := ?_) (a' := ?_) (bz 24 2097151) rfl rfl (take_ofW HT_.out HW_.out (by kernel_rfl)) (fun _ _ _ h => h) (Or.inl ⟨by rfl, ?_⟩) hHeld ?_ ?_
            rotate_left
            ·rintro w' ⟨s0, s1, s2, s3, s4, s5, s6⟩
             go_simp
             with_reducible rfl
            rotate_left
            ·simp only [Act.put, List.setIfInBounds_toArray, List.set_cons_zero, List.set_cons_succ, i64_w, i32_w]
             rfl
            refine take_ (i := 21) (N := some 49) (v := ?_) (a' := ?_) (bz 24 4194303) rfl rfl (take_ofW HT_.out HW_.out (by kernel_rfl)) (fun _ _ _ h => h) (Or.inl ⟨by rfl, ?_⟩) hHeld ?_ ?_
            rotate_left
            ·rintro w' ⟨s0, s1, s2, s3, s4, s5, s6⟩
             go_simp
             with_reducible rfl
            rotate_left
            ·simp only [Act.put, List.setIfInBounds_toArray, List.set_cons_zero, List.set_cons_succ, i64_w, i32_w]
             rfl
            refine pure_ (i := 22) (N := some 50) (v := ?_) (a' := ?_) (bz 24 8388607) rfl rfl (any_of HT_.out (by kernel_rfl)) (fun _ _ _ h => h) (Or.inl ⟨by rfl, ?_⟩) ?_ ?_
            rotate_left
            ·intro w'
             go_simp
             with_reducible rfl
            rotate_left
            ·simp only [Act.put, List.setIfInBounds_toArray, List.set_cons_zero, List.set_cons_succ, i64_w, i32_w]
             rfl
            refine pure_ (i := 23) (N := some 51) (v := ?_) (a' := ?_) (bz 24 16777215) rfl rfl (any_of HT_.out (by kernel_rfl)) (fun _ _ _ h => h) (Or.inl ⟨by rfl, ?_⟩) ?_ ?_
            rotate_left
            ·intro w'
             go_simp
             with_reducible rfl
            rotate_left
            ·simp only [Act.put, List.setIfInBounds_toArray, List.set_cons_zero, List.set_cons_succ, i64_w, i32_w]
             rfl
            refine done_ (done_of HT_.out (by kernel_rfl)) ?_
            try go_wp2
            have n0_ := Aside0.mk (Kd.R_drew HO_8.out)
            have n1_ := Aside0.mk (blk_drew BK510.out)
            have n2_ := Aside0.mk (below_drew1 HB.out)
            clear HO_8
            clear BK510
            clear HB
            have HO_8 := n0_
            have BK510 := n1_
            have HB := n2_
            clear n0_ n1_ n2_
            have p523 : 0 ≤ (x9_2 : Int) := of_decide_eq_true (by first | (with_reducible assumption) | assumption)
            have q523 : x9_2 < (l2.length : Int) := of_decide_eq_true (by first | (with_reducible assumption) | assumption)
            obtain ⟨ad523, e523, hx523_0, hx523_1⟩ := at_T87 HR2.out x9_2 p523 q523
            have hw523_1 := hx523_1
            have hw523_0 := hx523_0
            obtain rfl : ad519 = ad523 := (by injection e523)
            replace hx523_0 := (HB.out.cell (World.block_lt_of_cell? w _ hx523_0)).trans hx523_0
            replace hx523_1 := (HB.out.cell (World.block_lt_of_cell? w _ hx523_1)).trans hx523_1
            replace p523 := eq_true p523
            replace q523 := eq_true q523
            have p524 : 0 ≤ (x9_2 : Int) := of_decide_eq_true (by first | (with_reducible assumption) | assumption)
            have q524 : x9_2 < (l2.length : Int) := of_decide_eq_true (by first | (with_reducible assumption) | assumption)
            obtain ⟨ad524, e524, hx524_0, hx524_1⟩ := at_T87 HR2.out x9_2 p524 q524
            have hw524_1 := hx524_1
            have hw524_0 := hx524_0
            obtain rfl : ad519 = ad524 := (by injection e524)
            replace hx524_0 := (HB.out.cell (World.block_lt_of_cell? w _ hx524_0)).trans hx524_0
            replace hx524_1 := (HB.out.cell (World.block_lt_of_cell? w _ hx524_1)).trans hx524_1
            replace p524 := eq_true p524
            replace q524 := eq_true q524
            have p27 : 0 ≤ (((rd_T87 l2 x9_2).f0) : Int) := of_decide_eq_true (by first | (with_reducible assumption) | assumption)
            have q27 : (((rd_T87 l2 x9_2).f0) : Int) < ((x8_2.length : Int) : Int) := of_decide_eq_true (by first | (with_reducible assumption) | assumption)
            obtain ⟨go27, co27, eo27, gb27, gl27, cl27, HG27⟩ := Kd.R_form HO_8.out (by omega)
            (first | cases eo27 | (injection eo27 with ea_ en_ ec_; (first | subst ea_ | (injection ea_ with ea_; subst ea_)); subst ec_; clear en_))
            have GB27 := Aside0.mk gb27
            have GG27 := Aside0.mk HG27
            clear gb27 gl27 HG27
            (first | simp only [add_plain] at hx521_0 | skip)
            obtain ⟨hx27_0, hf27_0⟩ := Kd.R_celln false HO_8.out (((rd_T87 l2 x9_2).f0) : Int) p27 q27
            replace p27 := eq_true p27
            replace q27 := eq_true q27
            have HP31 := Kd.R_putn HO_8.out (((rd_T87 l2 x9_2).f0) : Int) ((rd_T87 l2 x9_2).f1)
            rw [← Ny525.out] at HP31
            have HQ31 := Aside0.mk HP31
            clear HP31
            refine start_ (n := 13) (S := fun w' => w'.cell? (ad519.add ((x9_2).toNat * 2)) = some (.int .i64 ((rd_T87 l2 x9_2).f0)) ∧ w'.cell? ⟨(ad519.add ((x9_2).toNat * 2)).block, (ad519.add ((x9_2).toNat * 2)).off + 1, none⟩ = some (.bool ((rd_T87 l2 x9_2).f1)) ∧ w'.cell? (ad519.add ((x9_2).toNat * 2)) = some (.int .i64 ((rd_T87 l2 x9_2).f0)) ∧ w'.cell? ⟨(ad519.add ((x9_2).toNat * 2)).block, (ad519.add ((x9_2).toNat * 2)).off + 1, none⟩ = some (.bool ((rd_T87 l2 x9_2).f1))) (ds := [12]) (bz 13 0) (by kernel_rfl) rfl rfl ⟨((HB.out.cell (World.block_lt_of_cell? w _ hw523_0)).trans hw523_0), ((HB.out.cell (World.block_lt_of_cell? w _ hw523_1)).trans hw523_1), ((HB.out.cell (World.block_lt_of_cell? w _ hw524_0)).trans hw524_0), ((HB.out.cell (World.block_lt_of_cell? w _ hw524_1)).trans hw524_1)⟩ (fun hHeld => ?_); refine with_tabW spec_OrderRun.tab9 spec_OrderRun.bits9 (fun HT_ HW_ => ?_)
            generalize w28.drew = w30 at HO_8 BK510 HB GG27 HQ31 hf27_0 hx27_0 hx521_0 hx523_0 hx523_1 hx524_0 hx524_1 hHeld ⊢
            refine pure_ (i := 0) (N := some 54) (v := ?_) (a' := ?_) (bz 13 1) rfl rfl (any_of HT_.out (by kernel_rfl)) (fun _ _ _ h => h) (Or.inl ⟨by rfl, ?_⟩) ?_ ?_
            rotate_left
            ·intro w'
             go_simp
             with_reducible rfl
            rotate_left
            ·simp only [Act.put, List.setIfInBounds_toArray, List.set_cons_zero, List.set_cons_succ, i64_w, i32_w]
             rfl
            refine pure_ (i := 1) (N := some 55) (v := ?_) (a' := ?_) (bz 13 3) rfl rfl (any_of HT_.out (by kernel_rfl)) (fun _ _ _ h => h) (Or.inl ⟨by rfl, ?_⟩) ?_ ?_
            rotate_left
            ·intro w'
             go_simp
             with_reducible rfl
            rotate_left
            ·simp only [Act.put, List.setIfInBounds_toArray, List.set_cons_zero, List.set_cons_succ, i64_w, i32_w]
             rfl
            refine pure_ (i := 2) (N := some 56) (v := ?_) (a' := ?_) (bz 13 7) rfl rfl (any_of HT_.out (by kernel_rfl)) (fun _ _ _ h => h) (Or.inl ⟨by rfl, ?_⟩) ?_ ?_
            rotate_left
            ·intro w'
             go_simp
             with_reducible rfl
            rotate_left
            ·simp only [Act.put, List.setIfInBounds_toArray, List.set_cons_zero, List.set_cons_succ, i64_w, i32_w]
             rfl
            refine pure_ (i := 3) (N := some 57) (v := ?_) (a' := ?_) (bz 13 15) rfl rfl (any_of HT_.out (by kernel_rfl)) (fun _ _ _ h => h) (Or.inl ⟨by rfl, ?_⟩) ?_ ?_
            rotate_left
            ·intro w'
             go_simp
             with_reducible rfl
            rotate_left
            ·simp only [Act.put, List.setIfInBounds_toArray, List.set_cons_zero, List.set_cons_succ, i64_w, i32_w]
             rfl
            refine pure_ (i := 4) (N := some 58) (v := ?_) (a' := ?_) (bz 13 31) rfl rfl (any_of HT_.out (by kernel_rfl)) (fun _ _ _ h => h) (Or.inl ⟨by rfl, ?_⟩) ?_ ?_
            rotate_left
            ·intro w'
             go_simp
             with_reducible rfl
            rotate_left
            ·simp only [Act.put, List.setIfInBounds_toArray, List.set_cons_zero, List.set_cons_succ, i64_w, i32_w]
             rfl
            refine pure_ (i := 6) (N := some 60) (v := ?_) (a' := ?_) (bz 13 95) rfl rfl (any_of HT_.out (by kernel_rfl)) (fun _ _ _ h => h) (Or.inl ⟨by rfl, ?_⟩) ?_ ?_
            rotate_left
            ·intro w'
             go_simp
             with_reducible rfl
            rotate_left
            ·simp only [Act.put, List.setIfInBounds_toArray, List.set_cons_zero, List.set_cons_succ, i64_w, i32_w]
             rfl
            refine pure_ (i := 7) (N := some 61) (v := ?_) (a' := ?_) (bz 13 223) rfl rfl (any_of HT_.out (by kernel_rfl)) (fun _ _ _ h => h) (Or.inl ⟨by rfl, ?_⟩) ?_ ?_
            rotate_left
            ·intro w'
             go_simp
             with_reducible rfl
            rotate_left
            ·simp only [Act.put, List.setIfInBounds_toArray, List.set_cons_zero, List.set_cons_succ, i64_w, i32_w]
             rfl
            refine pure_ (i := 8) (N := some 62) (v := ?_) (a' := ?_) (bz 13 479) rfl rfl (any_of HT_.out (by kernel_rfl)) (fun _ _ _ h => h) (Or.inl ⟨by rfl, ?_⟩) ?_ ?_
            rotate_left
            ·intro w'
             go_simp
             with_reducible rfl
            rotate_left
            ·simp only [Act.put, List.setIfInBounds_toArray, List.set_cons_zero, List.set_cons_succ, i64_w, i32_w]
             rfl
            refine pure_ (i := 9) (N := some 63) (v := ?_) (a' := ?_) (bz 13 991) rfl rfl (any_of HT_.out (by kernel_rfl)) (fun _ _ _ h => h) (Or.inl ⟨by rfl, ?_⟩) ?_ ?_
            rotate_left
            ·intro w'
             go_simp
             with_reducible rfl
            rotate_left
            ·simp only [Act.put, List.setIfInBounds_toArray, List.set_cons_zero, List.set_cons_succ, i64_w, i32_w]
             rfl
            refine take_ (i := 5) (N := some 59) (v := ?_) (a' := ?_) (bz 13 1023) rfl rfl (take_ofW HT_.out HW_.out (by kernel_rfl)) (fun _ _ _ h => h) (Or.inl ⟨by rfl, ?_⟩) hHeld ?_ ?_
            rotate_left
            ·rintro w' ⟨s0, s1, s2, s3⟩
             go_simp
             with_reducible rfl
            rotate_left
            ·simp only [Act.put, List.setIfInBounds_toArray, List.set_cons_zero, List.set_cons_succ, i64_w, i32_w]
             rfl
            refine take_ (i := 10) (N := some 64) (v := ?_) (a' := ?_) (bz 13 2047) rfl rfl (take_ofW HT_.out HW_.out (by kernel_rfl)) (fun _ _ _ h => h) (Or.inl ⟨by rfl, ?_⟩) hHeld ?_ ?_
            rotate_left
            ·rintro w' ⟨s0, s1, s2, s3⟩
             go_simp
             with_reducible rfl
            rotate_left
            ·simp only [Act.put, List.setIfInBounds_toArray, List.set_cons_zero, List.set_cons_succ, i64_w, i32_w]
             rfl
            refine pure_ (i := 11) (N := some 65) (v := ?_) (a' := ?_) (bz 13 4095) rfl rfl (any_of HT_.out (by kernel_rfl)) (fun _ _ _ h => h) (Or.inl ⟨by rfl, ?_⟩) ?_ ?_
            rotate_left
            ·intro w'
             go_simp
             with_reducible rfl
            rotate_left
            ·simp only [Act.put, List.setIfInBounds_toArray, List.set_cons_zero, List.set_cons_succ, i64_w, i32_w]
             rfl
            refine last_ (i := 12) (N := none) (bz 13 8191) rfl rfl (one_of HT_.out (by kernel_rfl)) (by decide) (fun K hK => ?_)
            refine skip_ (w1 := ?_) (by rfl) rfl ?_ ?_
            rotate_left
            ·go_simp
             rfl
            refine hK.out _ _ ?_
            clear hK K
            refine done_ (done_of HT_.out (by kernel_rfl)) ?_
            try go_wp2
            go_roundg k2
            case measure => have := HJ3.out; have := HK2.out; omega
            case rel => exact ⟨(y525), (wrap64 (x9_2 + 1)), (by first | rfl | (simp; done) | (simp [*]; done)), H', ⟨by have := HJ3.out; have := HK2.out; omega⟩, ⟨rk HQ31⟩, ⟨by (with_reducible repeat (first | refine blk_drewN ?_ _ | refine blk_drew ?_ | refine blk_alloc ?_ _)); refine blk_far ?_ (by have h_ := Kd.R_ne HO_8.out BK510.out (by decide); intro e_; exact h_ (by rw [e_]; rfl)) _; (with_reducible repeat (first | refine blk_drewN ?_ _ | refine blk_drew ?_ | refine blk_alloc ?_ _)); exact BK510.out⟩, ⟨by repeat (first | (with_reducible first | exact HB.out | apply below_alloc | apply pw_below_drewN | apply below_drew1 | refine below_set ?_ GB27.out | refine below_set ?_ GE510.out) | exact HB.out)⟩⟩
          ·rw [if_neg c23] at H
           exact absurd H (by simp)
         ·rw [if_neg c22] at H
          exact absurd H (by simp)
       ·rw [if_neg c19] at H
        exact absurd H (by simp)
      ·rw [if_neg c18] at H
       have c18b0 : decide (x9_2 < (l2.length : Int)) = false := decide_eq_false c18
       clear c18
       simp only [Option.some.injEq, Prod.mk.injEq] at H
       obtain ⟨rfl, rfl⟩ := H
       go_wp2
       go_ret2
       exact ⟨_, by first | rfl | (simp [errW_none, errW_some] <;> rfl) | (simp [*, errW_none, errW_some] <;> rfl), rk HO_8, bw⟩

end Go.Proofs.YtihmidnjiaomhaaDoor.G
