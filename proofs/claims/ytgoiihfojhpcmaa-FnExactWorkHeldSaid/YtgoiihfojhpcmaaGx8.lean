-- Printed by wip/gen.py of this session's repo, over the kit's print.py. Not trusted: Lean checks it.
import Derived.Test.YtgoiihfojhpcmaaGx0
import Derived.Test.YtgoiihfojhpcmaaSq
import Derived.Test.YtgoiihfojhpcmaaGx7
namespace Go.Proofs.Ytgoiihfojhpcmaa.G
open Go.RowKit Go.Proofs.YtgoiihfojhpcmaaW.PrintWords Go.Proofs.YtgoiihfojhpcmaaW.PrintLast Go.Proofs.YtgoiihfojhpcmaaW.PrintMore Go.Proofs.Ytgoiihfojhpcmaa.Sq
attribute [local go_sem] max2_int min2_int max_two min_two max_three min_three max_four min_four   -- for this text's walks alone
set_option linter.unusedVariables false
set_option linter.unusedSimpArgs false

/-! ### impl_WorkValid: function 41 -/
mutual
def impl_WorkValid.j0 : Nat → Bool → List Bool → List Bool → List (S112) → Option (Bool)
 | 0, _, _, _, _ => none
 | k + 1, x30, x229000, x229001, x229002 => if x30 = true then (some false) else (impl_WorkValid.l0 k (x229000.length : Int) 0 x229000 x229001 x229002)
def impl_WorkValid.l0 : Nat → Int → Int → List Bool → List Bool → List (S112) → Option (Bool)
 | 0, _, _, _, _, _ => none
 | k + 1, x33, x34, x229000, x229001, x229002 => if x34 < x33 then (if 0 ≤ x34 then (if x34 < (x229000.length : Int) then (if rdOf false x229000 x34 = true then (if x34 < (x229001.length : Int) then (if rdOf false x229001 x34 = true then (some false) else (impl_WorkValid.l0 k x33 (wrap64 (x34 + 1)) x229000 x229001 x229002)) else (none)) else (impl_WorkValid.l0 k x33 (wrap64 (x34 + 1)) x229000 x229001 x229002)) else (none)) else (none)) else (impl_WorkValid.l1 k x229002 (x229002.length : Int) 0 x229000 x229001 x229002)
def impl_WorkValid.l1 : Nat → List (S112) → Int → Int → List Bool → List Bool → List (S112) → Option (Bool)
 | 0, _, _, _, _, _, _ => none
 | k + 1, x51, x52, x53, x229000, x229001, x229002 => if x53 < x52 then (if 0 ≤ x53 then (if x53 < (x51.length : Int) then (if ((rd_T112 x51 x53).f0) < 0 then (some false) else (if ((rd_T112 x51 x53).f0) > 9 then (some false) else (if ((rd_T112 x51 x53).f1) < 0 then (some false) else (if ((rd_T112 x51 x53).f1) ≥ (x229000.length : Int) then (some false) else (if 0 ≤ ((rd_T112 x51 x53).f1) then (if ((rd_T112 x51 x53).f1) < (x229001.length : Int) then (if (rdOf false x229001 ((rd_T112 x51 x53).f1) = true) then (if x53 ≤ (x229002.length : Int) then ((impl_Permit_80.f k (x229002.take (x53 : Int).toNat) ((rd_T112 x51 x53).f0) ((rd_T112 x51 x53).f1)).bind fun t238 => (if t238 = true then (some false) else (impl_WorkValid.l1 k x51 x52 (wrap64 (x53 + 1)) x229000 x229001 x229002))) else (none)) else (some false)) else (none)) else (none)))))) else (none)) else (none)) else (some true)
end
def impl_WorkValid.f (k : Nat) (l0_0 : List Bool) (l0_1 : List Bool) (l0_2 : List (S112)) : Option (Bool) := if (l0_0.length : Int) < 1 then (impl_WorkValid.j0 k true l0_0 l0_1 l0_2) else (if (l0_0.length : Int) > 10 then (impl_WorkValid.j0 k true l0_0 l0_1 l0_2) else (if (l0_1.length : Int) = (l0_0.length : Int) then (impl_WorkValid.j0 k (decide ((l0_2.length : Int) > 6)) l0_0 l0_1 l0_2) else (impl_WorkValid.j0 k true l0_0 l0_1 l0_2)))
theorem impl_WorkValid.mono_l : ∀ k, (∀ y0 y1 y2 y3, LeO (impl_WorkValid.j0 k y0 y1 y2 y3) (impl_WorkValid.j0 (k + 1) y0 y1 y2 y3)) ∧ (∀ y0 y1 y2 y3 y4, LeO (impl_WorkValid.l0 k y0 y1 y2 y3 y4) (impl_WorkValid.l0 (k + 1) y0 y1 y2 y3 y4)) ∧ (∀ y0 y1 y2 y3 y4 y5, LeO (impl_WorkValid.l1 k y0 y1 y2 y3 y4 y5) (impl_WorkValid.l1 (k + 1) y0 y1 y2 y3 y4 y5))
 | 0 => ⟨fun _ _ _ _ r h => by simp [impl_WorkValid.j0] at h, fun _ _ _ _ _ r h => by simp [impl_WorkValid.l0] at h, fun _ _ _ _ _ _ r h => by simp [impl_WorkValid.l1] at h⟩
 | k + 1 => by
  obtain ⟨ih0, ih1, ih2⟩ := impl_WorkValid.mono_l k
  refine ⟨?_, ?_, ?_⟩
  ·intro y0 y1 y2 y3
   unfold impl_WorkValid.j0
   repeat' first
   | (with_reducible exact ih0 _ _ _ _)
   | (with_reducible exact ih1 _ _ _ _ _)
   | (with_reducible exact ih2 _ _ _ _ _ _)
   | (with_reducible exact impl_Permit_80.mono _ _ _ _)
   | (with_reducible exact LeO.refl _)
   | (with_reducible exact LeO.none _)
   | (with_reducible refine LeO.ite ?_ ?_)
   | (with_reducible refine LeO.bind ?_ (fun _ => ?_))
   | exact ih0 _ _ _ _
   | exact ih1 _ _ _ _ _
   | exact ih2 _ _ _ _ _ _
   | exact impl_Permit_80.mono _ _ _ _
   | exact LeO.none _
   | refine LeO.ite ?_ ?_
   | refine LeO.bind ?_ (fun _ => ?_)
  ·intro y0 y1 y2 y3 y4
   unfold impl_WorkValid.l0
   repeat' first
   | (with_reducible exact ih0 _ _ _ _)
   | (with_reducible exact ih1 _ _ _ _ _)
   | (with_reducible exact ih2 _ _ _ _ _ _)
   | (with_reducible exact impl_Permit_80.mono _ _ _ _)
   | (with_reducible exact LeO.refl _)
   | (with_reducible exact LeO.none _)
   | (with_reducible refine LeO.ite ?_ ?_)
   | (with_reducible refine LeO.bind ?_ (fun _ => ?_))
   | exact ih0 _ _ _ _
   | exact ih1 _ _ _ _ _
   | exact ih2 _ _ _ _ _ _
   | exact impl_Permit_80.mono _ _ _ _
   | exact LeO.none _
   | refine LeO.ite ?_ ?_
   | refine LeO.bind ?_ (fun _ => ?_)
  ·intro y0 y1 y2 y3 y4 y5
   unfold impl_WorkValid.l1
   repeat' first
   | (with_reducible exact ih0 _ _ _ _)
   | (with_reducible exact ih1 _ _ _ _ _)
   | (with_reducible exact ih2 _ _ _ _ _ _)
   | (with_reducible exact impl_Permit_80.mono _ _ _ _)
   | (with_reducible exact LeO.refl _)
   | (with_reducible exact LeO.none _)
   | (with_reducible refine LeO.ite ?_ ?_)
   | (with_reducible refine LeO.bind ?_ (fun _ => ?_))
   | exact ih0 _ _ _ _
   | exact ih1 _ _ _ _ _
   | exact ih2 _ _ _ _ _ _
   | exact impl_Permit_80.mono _ _ _ _
   | exact LeO.none _
   | refine LeO.ite ?_ ?_
   | refine LeO.bind ?_ (fun _ => ?_)
theorem impl_WorkValid.mono : ∀ a0 a1 a2 k, LeO (impl_WorkValid.f k a0 a1 a2) (impl_WorkValid.f (k + 1) a0 a1 a2) := by
 intro a0 a1 a2 k
 obtain ⟨ih0, ih1, ih2⟩ := impl_WorkValid.mono_l k
 unfold impl_WorkValid.f
 repeat' first
   | (with_reducible exact ih0 _ _ _ _)
   | (with_reducible exact ih1 _ _ _ _ _)
   | (with_reducible exact ih2 _ _ _ _ _ _)
   | (with_reducible exact impl_Permit_80.mono _ _ _ _)
   | (with_reducible exact LeO.refl _)
   | (with_reducible exact LeO.none _)
   | (with_reducible refine LeO.ite ?_ ?_)
   | (with_reducible refine LeO.bind ?_ (fun _ => ?_))
   | exact ih0 _ _ _ _
   | exact ih1 _ _ _ _ _
   | exact ih2 _ _ _ _ _ _
   | exact impl_Permit_80.mono _ _ _ _
   | exact LeO.none _
   | refine LeO.ite ?_ ?_
   | refine LeO.bind ?_ (fun _ => ?_)
def impl_WorkValid.T12 : Bool × List (List Nat × List Nat) := (true, [([], []), ([0], [0]), ([1], [1]), ([2], [2]), ([3], [3]), ([4, 3], [3, 4]), ([5, 3], [3, 5]), ([3, 6], [3, 6]), ([7, 3], [7]), ([8], [8]), ([9, 8], [8, 9]), ([10, 8], [8, 10]), ([8, 11], [8, 11]), ([12, 8], [12]), ([13], [13]), ([14, 13], [13, 14]), ([13], [13]), ([16, 13], [13, 16]), ([17, 13], [13, 17]), ([15, 18, 13], [13, 15, 18]), ([13, 19], [13, 19]), ([20, 13], [20]), ([21], [21]), ([22, 21], [21, 22]), ([21], [21]), ([24, 21], [21, 24]), ([23, 25, 21], [21, 23, 25]), ([26, 21], [21, 26]), ([27, 21], [21, 27]), ([21, 28], [21, 28]), ([29, 21], [29]), ([30], [30]), ([31, 30], [30, 31]), ([30], [30]), ([32, 33, 30], [30, 32, 33]), ([30], [30]), ([34, 35, 30, 30], [30, 34, 35]), ([30, 36], [30, 36])])
def impl_WorkValid.B12 : List Nat := [0, 1, 3, 7, 15, 31, 63, 127, 255, 511, 1023, 2047, 4095, 8191, 16383, 32767, 16383, 81919, 212991, 524287, 1048575, 2097151, 4194303, 8388607, 4194303, 20971519, 67108863, 134217727, 268435455, 536870911, 1073741823, 2147483647, 4294967295, 2147483647, 17179869183, 2147483647, 68719476735, 137438953471]
theorem impl_WorkValid.tab12 : rtab .any (opsOf Try.f41 12) = impl_WorkValid.T12 := by kernel_rfl
theorem impl_WorkValid.bits12 : waitsOk impl_WorkValid.T12.2 impl_WorkValid.B12 = true := by kernel_rfl
set_option maxHeartbeats 8000000 in
set_option maxRecDepth 100000 in
theorem impl_WorkValid.calls (k : Nat) (A0_0 : Option Addr) (c0_0 : Nat) (l0_0 : List Bool) (A0_1 : Option Addr) (c0_1 : Nat) (l0_1 : List Bool) (A0_2 : Option Addr) (c0_2 : Nat) (l0_2 : List (S112)) (r : Bool) (w : World) (hr0_0 : Kd.C Kd.bool w A0_0 l0_0.length l0_0) (hc0_0 : l0_0.length ≤ c0_0) (hr0_1 : Kd.C Kd.bool w A0_1 l0_1.length l0_1) (hc0_1 : l0_1.length ≤ c0_1) (hr0_2 : Kd.C k112 w A0_2 l0_2.length l0_2) (hc0_2 : l0_2.length ≤ c0_2) (h : impl_WorkValid.f k l0_0 l0_1 l0_2 = some r) :
  Calls Try.prog 41 #[.agg #[.slice A0_0 l0_0.length c0_0, .slice A0_1 l0_1.length c0_1, .slice A0_2 l0_2.length c0_2]] w fun e w' => e = .returned (.bool r) ∧ Below w.heap.size w w' := by
 have hu73 := Try.underlying73
 have hu112 := Try.underlying112
 have HR0_0 := Aside0.mk hr0_0
 have HC0_0 := Aside0.mk hc0_0
 clear hr0_0 hc0_0
 have HR0_1 := Aside0.mk hr0_1
 have HC0_1 := Aside0.mk hc0_1
 clear hr0_1 hc0_1
 have HR0_2 := Aside0.mk hr0_2
 have HC0_2 := Aside0.mk hc0_2
 clear hr0_2 hc0_2
 have HB := Aside0.mk (Below.refl w.heap.size w)
 have H : (if (l0_0.length : Int) < 1 then (impl_WorkValid.j0 k true l0_0 l0_1 l0_2) else (if (l0_0.length : Int) > 10 then (impl_WorkValid.j0 k true l0_0 l0_1 l0_2) else (if (l0_1.length : Int) = (l0_0.length : Int) then (impl_WorkValid.j0 k (decide ((l0_2.length : Int) > 6)) l0_0 l0_1 l0_2) else (impl_WorkValid.j0 k true l0_0 l0_1 l0_2)))) = some r := h
 clear h
 have HC2 := Aside0.mk H
 clear H
 go_enter Try.func41, Try.ntmps41
 go_upto_region 1 with (first | ((with_reducible refine gate_dst (N := 1) rfl ?_); (try (refine gate_guard (by rfl) ?_; dsimp only)); refine box_event ?hg (N := 1) ?hd (cs := #[.slice A0_0 l0_0.length c0_0, .slice A0_1 l0_1.length c0_1, .slice A0_2 l0_2.length c0_2]) (t := 73) ?hr ?_; (case hd => rfl); (case hg => rfl); (case hr => first | (go_simp; done) | (go_simp; rfl)); intro gb228 hg w3 hbox hb; have n0_ := Aside0.mk (below_step bw hb); have n1_ := Aside0.mk (hbox); have n2_ := Aside0.mk ((by rw [hg]; exact (below_size bw) : w.heap.size ≤ gb228)); have n3_ := Aside0.mk ((by rw [hg]; exact (below_size bw) : w.heap.size ≤ gb228)); clear HB; have HB := n0_; have BK228 := n1_; have GW228 := n2_; have GE228 := n3_; clear n0_ n1_ n2_ n3_; clear hb hbox hg))
 (try simp only [Act.put, List.setIfInBounds_toArray, List.set_cons_zero, List.set_cons_succ])
 go_cut [30] (fun v30 wc => ∃ (kq : Nat) (x30_1 : Bool), v30 = .bool x30_1 ∧ Aside0 (impl_WorkValid.j0 kq x30_1 l0_0 l0_1 l0_2 = some r) ∧ Aside0 (kq ≤ k) ∧ Aside0 (wc.heap[gb228]? = some (.cells #[(.slice A0_0 l0_0.length c0_0), (.slice A0_1 l0_1.length c0_1), (.slice A0_2 l0_2.length c0_2)] 73 (0, 0))) ∧ Aside0 (Below w.heap.size w wc))
 case first =>
  have H := HC2.out
  clear HC2
  by_cases c4 : (l0_0.length : Int) < 1
  ·rw [if_pos c4] at H
   have c4b0 : decide ((l0_0.length : Int) < 1) = true := decide_eq_true c4
   have c4b1 : decide (l0_0.length < 1) = true := decide_eq_true (by omega)
   clear c4
   (first | rw [c4b0] | (simp only [i64_w, i32_w]; rw [c4b0]) | skip)
   have H' := Aside0.mk H
   clear H
   have hcz5_0 : w3.cell? ⟨gb228, 0, none⟩ = some (.slice A0_0 l0_0.length c0_0) := (blk_cell BK228.out 0).trans rfl
   have hcz5_1 : w3.cell? ⟨gb228, 1, none⟩ = some (.slice A0_1 l0_1.length c0_1) := (blk_cell BK228.out 1).trans rfl
   have hcz5_2 : w3.cell? ⟨gb228, 2, none⟩ = some (.slice A0_2 l0_2.length c0_2) := (blk_cell BK228.out 2).trans rfl
   have hfz5_0 := blk_frozen BK228.out 0
   have hfz5_1 := blk_frozen BK228.out 1
   have hfz5_2 := blk_frozen BK228.out 2
   go_wp2
   go_meet
   case rel => exact ⟨_, (true), (by first | rfl | (simp; done) | (simp [*]; done)), H', ⟨by first | omega | exact Nat.le_refl _⟩, ⟨bk BK228⟩, ⟨bw⟩⟩
  ·rw [if_neg c4] at H
   have c4b0 : decide ((l0_0.length : Int) < 1) = false := decide_eq_false c4
   have c4b1 : decide (l0_0.length < 1) = false := decide_eq_false (by omega)
   clear c4
   (first | rw [c4b0] | (simp only [i64_w, i32_w]; rw [c4b0]) | skip)
   by_cases c6 : (l0_0.length : Int) > 10
   ·rw [if_pos c6] at H
    have c6b0 : decide (10 < (l0_0.length : Int)) = true := decide_eq_true c6
    have c6b1 : decide (10 < l0_0.length) = true := decide_eq_true (by omega)
    clear c6
    have H' := Aside0.mk H
    clear H
    have hcz7_0 : w3.cell? ⟨gb228, 0, none⟩ = some (.slice A0_0 l0_0.length c0_0) := (blk_cell BK228.out 0).trans rfl
    have hcz7_1 : w3.cell? ⟨gb228, 1, none⟩ = some (.slice A0_1 l0_1.length c0_1) := (blk_cell BK228.out 1).trans rfl
    have hcz7_2 : w3.cell? ⟨gb228, 2, none⟩ = some (.slice A0_2 l0_2.length c0_2) := (blk_cell BK228.out 2).trans rfl
    have hfz7_0 := blk_frozen BK228.out 0
    have hfz7_1 := blk_frozen BK228.out 1
    have hfz7_2 := blk_frozen BK228.out 2
    go_wp2
    go_meet
    case rel => exact ⟨_, (true), (by first | rfl | (simp; done) | (simp [*]; done)), H', ⟨by first | omega | exact Nat.le_refl _⟩, ⟨bk BK228⟩, ⟨bw⟩⟩
   ·rw [if_neg c6] at H
    have c6b0 : decide (10 < (l0_0.length : Int)) = false := decide_eq_false c6
    have c6b1 : decide (10 < l0_0.length) = false := decide_eq_false (by omega)
    clear c6
    by_cases c8 : (l0_1.length : Int) = (l0_0.length : Int)
    ·rw [if_pos c8] at H
     have c8b0 : ((l0_1.length : Int) == (l0_0.length : Int)) = true := beq_iff_eq.mpr c8
     have c8b1 : ((l0_1.length : Int) != (l0_0.length : Int)) = false := bne_eq_false_iff_eq.mpr c8
     have c8b2 : (l0_1.length == l0_0.length) = true := by first | simpa using c8 | (simp at c8 ⊢; omega)
     clear c8
     have H' := Aside0.mk H
     clear H
     have hcz9_0 : w3.cell? ⟨gb228, 0, none⟩ = some (.slice A0_0 l0_0.length c0_0) := (blk_cell BK228.out 0).trans rfl
     have hcz9_1 : w3.cell? ⟨gb228, 1, none⟩ = some (.slice A0_1 l0_1.length c0_1) := (blk_cell BK228.out 1).trans rfl
     have hcz9_2 : w3.cell? ⟨gb228, 2, none⟩ = some (.slice A0_2 l0_2.length c0_2) := (blk_cell BK228.out 2).trans rfl
     have hfz9_0 := blk_frozen BK228.out 0
     have hfz9_1 := blk_frozen BK228.out 1
     have hfz9_2 := blk_frozen BK228.out 2
     go_wp2
     go_meet
     case rel => exact ⟨_, (decide ((l0_2.length : Int) > 6)), (by first | rfl | (simp; done) | (simp [*]; done)), H', ⟨by first | omega | exact Nat.le_refl _⟩, ⟨bk BK228⟩, ⟨bw⟩⟩
    ·rw [if_neg c8] at H
     have c8b0 : ((l0_1.length : Int) == (l0_0.length : Int)) = false := beq_eq_false_iff_ne.mpr c8
     have c8b1 : ((l0_1.length : Int) != (l0_0.length : Int)) = true := bne_iff_ne.mpr c8
     have c8b2 : (l0_1.length == l0_0.length) = false := by first | simpa using c8 | (simp at c8 ⊢; omega)
     have H' := Aside0.mk H
     clear H
     have hcz10_0 : w3.cell? ⟨gb228, 0, none⟩ = some (.slice A0_0 l0_0.length c0_0) := (blk_cell BK228.out 0).trans rfl
     have hcz10_1 : w3.cell? ⟨gb228, 1, none⟩ = some (.slice A0_1 l0_1.length c0_1) := (blk_cell BK228.out 1).trans rfl
     have hcz10_2 : w3.cell? ⟨gb228, 2, none⟩ = some (.slice A0_2 l0_2.length c0_2) := (blk_cell BK228.out 2).trans rfl
     have hfz10_0 := blk_frozen BK228.out 0
     have hfz10_1 := blk_frozen BK228.out 1
     have hfz10_2 := blk_frozen BK228.out 2
     go_wp2
     go_meet
     case rel => exact ⟨_, (true), (by first | rfl | (simp; done) | (simp [*]; done)), H', ⟨by first | omega | exact Nat.le_refl _⟩, ⟨bk BK228⟩, ⟨bw⟩⟩
 case rest =>
  clear HC2
  try clear p2
  try clear c4
  try clear c4b0
  try clear c4b1
  try clear c6
  try clear c6b0
  try clear c6b1
  try clear c8
  try clear c8b0
  try clear c8b1
  try clear c8b2
  try clear hcz10_0
  try clear hcz10_1
  try clear hcz10_2
  try clear hcz5_0
  try clear hcz5_1
  try clear hcz5_2
  try clear hcz7_0
  try clear hcz7_1
  try clear hcz7_2
  try clear hcz9_0
  try clear hcz9_1
  try clear hcz9_2
  try clear hfz10_0
  try clear hfz10_1
  try clear hfz10_2
  try clear hfz5_0
  try clear hfz5_1
  try clear hfz5_2
  try clear hfz7_0
  try clear hfz7_1
  try clear hfz7_2
  try clear hfz9_0
  try clear hfz9_1
  try clear hfz9_2
  obtain ⟨kq, x30_1, rfl, HA, HJ1, BK228, HB⟩ := hcut
  cases kq with
  | zero => exact absurd HA.out (by simp [impl_WorkValid.j0])
  | succ kj1 =>
   have H := HA.out
   clear HA
   simp only [impl_WorkValid.j0] at H
   by_cases c11 : x30_1 = true
   ·subst c11
    have H1 : (some false) = some r := by rw [if_pos rfl] at H; exact H
    clear H
    have H := H1
    clear H1
    obtain rfl := Option.some.inj H
    go_wp2
    go_ret
    exact ⟨by first | rfl | (simp [errW_none, errW_some] <;> rfl) | (simp [*, errW_none, errW_some] <;> rfl), bw⟩
   ·replace c11 := Bool.eq_false_iff.mpr c11
    subst c11
    have H1 : (impl_WorkValid.l0 kj1 (l0_0.length : Int) 0 l0_0 l0_1 l0_2) = some r := by rw [if_neg (show ¬ (false = true) by decide)] at H; exact H
    clear H
    have H := H1
    clear H1
    have H' := Aside0.mk H
    clear H
    have hcz12_0 : wc.cell? ⟨gb228, 0, none⟩ = some (.slice A0_0 l0_0.length c0_0) := (blk_cell BK228.out 0).trans rfl
    have hcz12_1 : wc.cell? ⟨gb228, 1, none⟩ = some (.slice A0_1 l0_1.length c0_1) := (blk_cell BK228.out 1).trans rfl
    have hcz12_2 : wc.cell? ⟨gb228, 2, none⟩ = some (.slice A0_2 l0_2.length c0_2) := (blk_cell BK228.out 2).trans rfl
    have hfz12_0 := blk_frozen BK228.out 0
    have hfz12_1 := blk_frozen BK228.out 1
    have hfz12_2 := blk_frozen BK228.out 2
    go_wp2
    go_loopg [34] kj1 (fun kq v34 w' => ∃ (x34_2 : Int), v34 = .int .i64 x34_2 ∧ Aside0 (impl_WorkValid.l0 kq (l0_0.length : Int) x34_2 l0_0 l0_1 l0_2 = some r) ∧ Aside0 (kq ≤ kj1) ∧ Aside0 (w'.heap[gb228]? = some (.cells #[(.slice A0_0 l0_0.length c0_0), (.slice A0_1 l0_1.length c0_1), (.slice A0_2 l0_2.length c0_2)] 73 (0, 0))) ∧ Aside0 (Below w.heap.size w w'))
    case atStart => exact ⟨(0), (by first | rfl | (simp; done) | (simp [*]; done)), H', ⟨Nat.le_refl _⟩, ⟨bk BK228⟩, ⟨bw⟩⟩
    case round =>
     clear H'
     try clear c1
     try clear p2
     try clear c4
     try clear c4b0
     try clear c4b1
     try clear c6
     try clear c6b0
     try clear c6b1
     try clear c8
     try clear c8b0
     try clear c8b1
     try clear c8b2
     try clear c11
     try clear hcz10_0
     try clear hcz10_1
     try clear hcz10_2
     try clear hcz12_0
     try clear hcz12_1
     try clear hcz12_2
     try clear hcz5_0
     try clear hcz5_1
     try clear hcz5_2
     try clear hcz7_0
     try clear hcz7_1
     try clear hcz7_2
     try clear hcz9_0
     try clear hcz9_1
     try clear hcz9_2
     try clear hfz10_0
     try clear hfz10_1
     try clear hfz10_2
     try clear hfz12_0
     try clear hfz12_1
     try clear hfz12_2
     try clear hfz5_0
     try clear hfz5_1
     try clear hfz5_2
     try clear hfz7_0
     try clear hfz7_1
     try clear hfz7_2
     try clear hfz9_0
     try clear hfz9_1
     try clear hfz9_2
     try clear p2
     obtain ⟨x34_2, rfl, HA, HK2, BK228, HB⟩ := hrel
     cases gk with
     | zero => exact absurd HA.out (by simp [impl_WorkValid.l0])
     | succ k2 =>
      have H := HA.out
      clear HA
      simp only [impl_WorkValid.l0] at H
      by_cases c13 : x34_2 < (l0_0.length : Int)
      ·rw [if_pos c13] at H
       have c13b0 : decide (x34_2 < (l0_0.length : Int)) = true := decide_eq_true c13
       clear c13
       by_cases c14 : 0 ≤ x34_2
       ·rw [if_pos c14] at H
        have c14b0 : decide (0 ≤ x34_2) = true := decide_eq_true c14
        clear c14
        by_cases c15 : x34_2 < (l0_0.length : Int)
        ·rw [if_pos c15] at H
         have c15b0 : decide (x34_2 < (l0_0.length : Int)) = true := decide_eq_true c15
         clear c15
         obtain ⟨bq16, hbq16⟩ : ∃ b_ : Bool, b_ = (rdOf false l0_0 x34_2) := ⟨_, rfl⟩
         replace H : (if bq16 = true then (if x34_2 < (l0_1.length : Int) then (if rdOf false l0_1 x34_2 = true then (some false) else (impl_WorkValid.l0 k2 (l0_0.length : Int) (wrap64 (x34_2 + 1)) l0_0 l0_1 l0_2)) else (none)) else (impl_WorkValid.l0 k2 (l0_0.length : Int) (wrap64 (x34_2 + 1)) l0_0 l0_1 l0_2)) = some r := by rw [← hbq16] at H; exact H
         have Nbq16 := Aside0.mk hbq16
         clear hbq16
         by_cases c17 : bq16 = true
         ·subst c17
          have H1 : (if x34_2 < (l0_1.length : Int) then (if rdOf false l0_1 x34_2 = true then (some false) else (impl_WorkValid.l0 k2 (l0_0.length : Int) (wrap64 (x34_2 + 1)) l0_0 l0_1 l0_2)) else (none)) = some r := by rw [if_pos rfl] at H; exact H
          clear H
          have H := H1
          clear H1
          by_cases c18 : x34_2 < (l0_1.length : Int)
          ·rw [if_pos c18] at H
           have c18b0 : decide (x34_2 < (l0_1.length : Int)) = true := decide_eq_true c18
           clear c18
           obtain ⟨bq19, hbq19⟩ : ∃ b_ : Bool, b_ = (rdOf false l0_1 x34_2) := ⟨_, rfl⟩
           replace H : (if bq19 = true then (some false) else (impl_WorkValid.l0 k2 (l0_0.length : Int) (wrap64 (x34_2 + 1)) l0_0 l0_1 l0_2)) = some r := by rw [← hbq19] at H; exact H
           have Nbq19 := Aside0.mk hbq19
           clear hbq19
           by_cases c20 : bq19 = true
           ·subst c20
            have H1 : (some false) = some r := by rw [if_pos rfl] at H; exact H
            clear H
            have H := H1
            clear H1
            obtain rfl := Option.some.inj H
            have hcz21_0 : wr.cell? ⟨gb228, 0, none⟩ = some (.slice A0_0 l0_0.length c0_0) := (blk_cell BK228.out 0).trans rfl
            have hcz21_1 : wr.cell? ⟨gb228, 1, none⟩ = some (.slice A0_1 l0_1.length c0_1) := (blk_cell BK228.out 1).trans rfl
            have hcz21_2 : wr.cell? ⟨gb228, 2, none⟩ = some (.slice A0_2 l0_2.length c0_2) := (blk_cell BK228.out 2).trans rfl
            have hfz21_0 := blk_frozen BK228.out 0
            have hfz21_1 := blk_frozen BK228.out 1
            have hfz21_2 := blk_frozen BK228.out 2
            have p229 : 0 ≤ (x34_2 : Int) := of_decide_eq_true (by first | (with_reducible assumption) | assumption)
            have q229 : x34_2 < (l0_0.length : Int) := of_decide_eq_true (by first | (with_reducible assumption) | assumption)
            obtain ⟨ad229, e229, hx229_0⟩ := Kd.at_bool HR0_0.out x34_2 p229 q229
            (try rw [← Nbq16.out] at hx229_0)
            (try rw [← Nbq19.out] at hx229_0)
            cases e229
            replace hx229_0 := (HB.out.cell (World.block_lt_of_cell? w _ hx229_0)).trans hx229_0
            replace p229 := eq_true p229
            replace q229 := eq_true q229
            have p230 : 0 ≤ (x34_2 : Int) := of_decide_eq_true (by first | (with_reducible assumption) | assumption)
            have q230 : x34_2 < (l0_1.length : Int) := of_decide_eq_true (by first | (with_reducible assumption) | assumption)
            obtain ⟨ad230, e230, hx230_0⟩ := Kd.at_bool HR0_1.out x34_2 p230 q230
            (try rw [← Nbq16.out] at hx230_0)
            (try rw [← Nbq19.out] at hx230_0)
            cases e230
            replace hx230_0 := (HB.out.cell (World.block_lt_of_cell? w _ hx230_0)).trans hx230_0
            replace p230 := eq_true p230
            replace q230 := eq_true q230
            go_wp2
            go_ret
            exact ⟨by first | rfl | (simp [errW_none, errW_some] <;> rfl) | (simp [*, errW_none, errW_some] <;> rfl), bw⟩
           ·replace c20 := Bool.eq_false_iff.mpr c20
            subst c20
            have H1 : (impl_WorkValid.l0 k2 (l0_0.length : Int) (wrap64 (x34_2 + 1)) l0_0 l0_1 l0_2) = some r := by rw [if_neg (show ¬ (false = true) by decide)] at H; exact H
            clear H
            have H := H1
            clear H1
            have H' := Aside0.mk H
            clear H
            have hcz22_0 : wr.cell? ⟨gb228, 0, none⟩ = some (.slice A0_0 l0_0.length c0_0) := (blk_cell BK228.out 0).trans rfl
            have hcz22_1 : wr.cell? ⟨gb228, 1, none⟩ = some (.slice A0_1 l0_1.length c0_1) := (blk_cell BK228.out 1).trans rfl
            have hcz22_2 : wr.cell? ⟨gb228, 2, none⟩ = some (.slice A0_2 l0_2.length c0_2) := (blk_cell BK228.out 2).trans rfl
            have hfz22_0 := blk_frozen BK228.out 0
            have hfz22_1 := blk_frozen BK228.out 1
            have hfz22_2 := blk_frozen BK228.out 2
            have p229 : 0 ≤ (x34_2 : Int) := of_decide_eq_true (by first | (with_reducible assumption) | assumption)
            have q229 : x34_2 < (l0_0.length : Int) := of_decide_eq_true (by first | (with_reducible assumption) | assumption)
            obtain ⟨ad229, e229, hx229_0⟩ := Kd.at_bool HR0_0.out x34_2 p229 q229
            (try rw [← Nbq16.out] at hx229_0)
            (try rw [← Nbq19.out] at hx229_0)
            cases e229
            replace hx229_0 := (HB.out.cell (World.block_lt_of_cell? w _ hx229_0)).trans hx229_0
            replace p229 := eq_true p229
            replace q229 := eq_true q229
            have p230 : 0 ≤ (x34_2 : Int) := of_decide_eq_true (by first | (with_reducible assumption) | assumption)
            have q230 : x34_2 < (l0_1.length : Int) := of_decide_eq_true (by first | (with_reducible assumption) | assumption)
            obtain ⟨ad230, e230, hx230_0⟩ := Kd.at_bool HR0_1.out x34_2 p230 q230
            (try rw [← Nbq16.out] at hx230_0)
            (try rw [← Nbq19.out] at hx230_0)
            cases e230
            replace hx230_0 := (HB.out.cell (World.block_lt_of_cell? w _ hx230_0)).trans hx230_0
            replace p230 := eq_true p230
            replace q230 := eq_true q230
            go_wp2
            go_roundg k2
            case measure => have := HJ1.out; have := HK2.out; omega
            case rel => exact ⟨(wrap64 (x34_2 + 1)), (by first | rfl | (simp; done) | (simp [*]; done)), H', ⟨by have := HJ1.out; have := HK2.out; omega⟩, ⟨bk BK228⟩, ⟨bw⟩⟩
          ·rw [if_neg c18] at H
           exact absurd H (by simp)
         ·replace c17 := Bool.eq_false_iff.mpr c17
          subst c17
          have H1 : (impl_WorkValid.l0 k2 (l0_0.length : Int) (wrap64 (x34_2 + 1)) l0_0 l0_1 l0_2) = some r := by rw [if_neg (show ¬ (false = true) by decide)] at H; exact H
          clear H
          have H := H1
          clear H1
          have H' := Aside0.mk H
          clear H
          have hcz23_0 : wr.cell? ⟨gb228, 0, none⟩ = some (.slice A0_0 l0_0.length c0_0) := (blk_cell BK228.out 0).trans rfl
          have hcz23_1 : wr.cell? ⟨gb228, 1, none⟩ = some (.slice A0_1 l0_1.length c0_1) := (blk_cell BK228.out 1).trans rfl
          have hcz23_2 : wr.cell? ⟨gb228, 2, none⟩ = some (.slice A0_2 l0_2.length c0_2) := (blk_cell BK228.out 2).trans rfl
          have hfz23_0 := blk_frozen BK228.out 0
          have hfz23_1 := blk_frozen BK228.out 1
          have hfz23_2 := blk_frozen BK228.out 2
          have p229 : 0 ≤ (x34_2 : Int) := of_decide_eq_true (by first | (with_reducible assumption) | assumption)
          have q229 : x34_2 < (l0_0.length : Int) := of_decide_eq_true (by first | (with_reducible assumption) | assumption)
          obtain ⟨ad229, e229, hx229_0⟩ := Kd.at_bool HR0_0.out x34_2 p229 q229
          (try rw [← Nbq16.out] at hx229_0)
          cases e229
          replace hx229_0 := (HB.out.cell (World.block_lt_of_cell? w _ hx229_0)).trans hx229_0
          replace p229 := eq_true p229
          replace q229 := eq_true q229
          go_wp2
          go_roundg k2
          case measure => have := HJ1.out; have := HK2.out; omega
          case rel => exact ⟨(wrap64 (x34_2 + 1)), (by first | rfl | (simp; done) | (simp [*]; done)), H', ⟨by have := HJ1.out; have := HK2.out; omega⟩, ⟨bk BK228⟩, ⟨bw⟩⟩
        ·rw [if_neg c15] at H
         exact absurd H (by simp)
       ·rw [if_neg c14] at H
        exact absurd H (by simp)
      ·rw [if_neg c13] at H
       have c13b0 : decide (x34_2 < (l0_0.length : Int)) = false := decide_eq_false c13
       clear c13
       have H' := Aside0.mk H
       clear H
       have hcz24_0 : wr.cell? ⟨gb228, 0, none⟩ = some (.slice A0_0 l0_0.length c0_0) := (blk_cell BK228.out 0).trans rfl
       have hcz24_1 : wr.cell? ⟨gb228, 1, none⟩ = some (.slice A0_1 l0_1.length c0_1) := (blk_cell BK228.out 1).trans rfl
       have hcz24_2 : wr.cell? ⟨gb228, 2, none⟩ = some (.slice A0_2 l0_2.length c0_2) := (blk_cell BK228.out 2).trans rfl
       have hfz24_0 := blk_frozen BK228.out 0
       have hfz24_1 := blk_frozen BK228.out 1
       have hfz24_2 := blk_frozen BK228.out 2
       go_wp2
       go_loopg [53] k2 (fun kq v53 w' => ∃ (x53_3 : Int), v53 = .int .i64 x53_3 ∧ Aside0 (impl_WorkValid.l1 kq l0_2 (l0_2.length : Int) x53_3 l0_0 l0_1 l0_2 = some r) ∧ Aside0 (kq ≤ k2) ∧ Aside0 (w'.heap[gb228]? = some (.cells #[(.slice A0_0 l0_0.length c0_0), (.slice A0_1 l0_1.length c0_1), (.slice A0_2 l0_2.length c0_2)] 73 (0, 0))) ∧ Aside0 (Below w.heap.size w w'))
       case atStart => exact ⟨(0), (by first | rfl | (simp; done) | (simp [*]; done)), H', ⟨Nat.le_refl _⟩, ⟨bk BK228⟩, ⟨bw⟩⟩
       case round =>
        clear H'
        try clear c1
        try clear q1
        try clear c2
        try clear p2
        try clear q2
        try clear hx2
        try clear c4
        try clear c4b0
        try clear c4b1
        try clear c6
        try clear c6b0
        try clear c6b1
        try clear p6
        try clear c8
        try clear c8b0
        try clear c8b1
        try clear c8b2
        try clear c11
        try clear c13
        try clear c13b0
        try clear c14
        try clear c14b0
        try clear c15
        try clear c15b0
        try clear q16
        try clear c17
        try clear c18
        try clear c18b0
        try clear q19
        try clear c20
        try clear p22
        try clear q22
        try clear hx22
        try clear p23
        try clear q23
        try clear hx23
        try clear hcz10_0
        try clear hcz10_1
        try clear hcz10_2
        try clear hcz12_0
        try clear hcz12_1
        try clear hcz12_2
        try clear hcz21_0
        try clear hcz21_1
        try clear hcz21_2
        try clear hcz22_0
        try clear hcz22_1
        try clear hcz22_2
        try clear hcz23_0
        try clear hcz23_1
        try clear hcz23_2
        try clear hcz24_0
        try clear hcz24_1
        try clear hcz24_2
        try clear hcz5_0
        try clear hcz5_1
        try clear hcz5_2
        try clear hcz7_0
        try clear hcz7_1
        try clear hcz7_2
        try clear hcz9_0
        try clear hcz9_1
        try clear hcz9_2
        try clear hfz10_0
        try clear hfz10_1
        try clear hfz10_2
        try clear hfz12_0
        try clear hfz12_1
        try clear hfz12_2
        try clear hfz21_0
        try clear hfz21_1
        try clear hfz21_2
        try clear hfz22_0
        try clear hfz22_1
        try clear hfz22_2
        try clear hfz23_0
        try clear hfz23_1
        try clear hfz23_2
        try clear hfz24_0
        try clear hfz24_1
        try clear hfz24_2
        try clear hfz5_0
        try clear hfz5_1
        try clear hfz5_2
        try clear hfz7_0
        try clear hfz7_1
        try clear hfz7_2
        try clear hfz9_0
        try clear hfz9_1
        try clear hfz9_2
        try clear hx229_0
        try clear hx230_0
        try clear p2
        try clear p229
        try clear p230
        try clear q229
        try clear q230
        obtain ⟨x53_3, rfl, HA, HK3, BK228, HB⟩ := hrel
        cases gk with
        | zero => exact absurd HA.out (by simp [impl_WorkValid.l1])
        | succ k3 =>
         have H := HA.out
         clear HA
         simp only [impl_WorkValid.l1] at H
         by_cases c25 : x53_3 < (l0_2.length : Int)
         ·rw [if_pos c25] at H
          have c25b0 : decide (x53_3 < (l0_2.length : Int)) = true := decide_eq_true c25
          clear c25
          by_cases c26 : 0 ≤ x53_3
          ·rw [if_pos c26] at H
           have c26b0 : decide (0 ≤ x53_3) = true := decide_eq_true c26
           clear c26
           by_cases c27 : x53_3 < (l0_2.length : Int)
           ·rw [if_pos c27] at H
            have c27b0 : decide (x53_3 < (l0_2.length : Int)) = true := decide_eq_true c27
            clear c27
            by_cases c28 : ((rd_T112 l0_2 x53_3).f0) < 0
            ·rw [if_pos c28] at H
             have c28b0 : decide (((rd_T112 l0_2 x53_3).f0) < 0) = true := decide_eq_true c28
             clear c28
             obtain rfl := Option.some.inj H
             have p231 : 0 ≤ (x53_3 : Int) := of_decide_eq_true (by first | (with_reducible assumption) | assumption)
             have q231 : x53_3 < (l0_2.length : Int) := of_decide_eq_true (by first | (with_reducible assumption) | assumption)
             obtain ⟨ad231, e231, hx231_0, hx231_1⟩ := at_T112 HR0_2.out x53_3 p231 q231
             cases e231
             replace hx231_0 := (HB.out.cell (World.block_lt_of_cell? w _ hx231_0)).trans hx231_0
             replace hx231_1 := (HB.out.cell (World.block_lt_of_cell? w _ hx231_1)).trans hx231_1
             replace p231 := eq_true p231
             replace q231 := eq_true q231
             try go_wp2_with (first | ((with_reducible refine gate_dst (N := 5) rfl ?_); (try (refine gate_guard (by rfl) ?_; dsimp only)); refine box_event ?hg (N := 5) ?hd (cs := #[.int .i64 0, .int .i64 0]) (t := 112) ?hr ?_; (case hd => rfl); (case hg => rfl); (case hr => first | (go_simp; done) | (go_simp; rfl)); intro gb232 hg w29 hbox hb; have n0_ := bkB BK228 hb; have n1_ := Aside0.mk (below_step bw hb); have n2_ := Aside0.mk (hbox); have n3_ := Aside0.mk ((by rw [hg]; exact (below_size bw) : w.heap.size ≤ gb232)); have n4_ := Aside0.mk ((by rw [hg]; exact (below_size bw) : w.heap.size ≤ gb232)); have n5_ := Aside0.mk ((by rw [hg]; exact Nat.ne_of_lt (blk_lt (g := gb228) (o := .cells #[.slice A0_0 l0_0.length c0_0, .slice A0_1 l0_1.length c0_1, .slice (some ad231) l0_2.length c0_2] 73 (0, 0)) (bk BK228)) : gb228 ≠ gb232)); have n6_ := Aside0.mk ((by rw [hg]; exact Nat.ne_of_gt (blk_lt (g := gb228) (o := .cells #[.slice A0_0 l0_0.length c0_0, .slice A0_1 l0_1.length c0_1, .slice (some ad231) l0_2.length c0_2] 73 (0, 0)) (bk BK228)) : gb232 ≠ gb228)); clear BK228 HB; have BK228 := n0_; have HB := n1_; have BK232 := n2_; have GW232 := n3_; have GE232 := n4_; have NB228_232 := n5_; have NB232_228 := n6_; clear n0_ n1_ n2_ n3_ n4_ n5_ n6_; clear hb hbox hg; have hnb30 := NB232_228.out; have hnc30 := NB228_232.out; have hcz31_0 : w29.cell? ⟨gb232, 0, none⟩ = some (.int .i64 0) := (blk_cell BK232.out 0).trans rfl; have hcz31_1 : w29.cell? ⟨gb232, 1, none⟩ = some (.int .i64 0) := (blk_cell BK232.out 1).trans rfl; have hfz31_0 := blk_frozen BK232.out 0; have hfz31_1 := blk_frozen BK232.out 1))
             have n0_ : Aside0 (((w29.setCell ⟨gb232, 0, none⟩ (.int .i64 ((rd_T112 l0_2 x53_3).f0))).setCell ⟨gb232, 1, none⟩ (.int .i64 ((rd_T112 l0_2 x53_3).f1))).heap[gb228]? = some (.cells #[.slice A0_0 l0_0.length c0_0, .slice A0_1 l0_1.length c0_1, .slice (some ad231) l0_2.length c0_2] 73 (0, 0))) := ⟨by (with_reducible repeat (first | refine blk_drewN ?_ _ | refine blk_drew ?_ | refine blk_alloc ?_ _)); refine blk_far ?_ NB228_232.out _; (with_reducible repeat (first | refine blk_drewN ?_ _ | refine blk_drew ?_ | refine blk_alloc ?_ _)); refine blk_far ?_ NB228_232.out _; (with_reducible repeat (first | refine blk_drewN ?_ _ | refine blk_drew ?_ | refine blk_alloc ?_ _)); exact BK228.out⟩
             have n1_ : Aside0 (((w29.setCell ⟨gb232, 0, none⟩ (.int .i64 ((rd_T112 l0_2 x53_3).f0))).setCell ⟨gb232, 1, none⟩ (.int .i64 ((rd_T112 l0_2 x53_3).f1))).heap[gb232]? = some (.cells #[.int .i64 ((rd_T112 l0_2 x53_3).f0), .int .i64 ((rd_T112 l0_2 x53_3).f1)] 112 (0, 0))) := ⟨by (with_reducible repeat (first | refine blk_drewN ?_ _ | refine blk_drew ?_ | refine blk_alloc ?_ _)); refine blk_put (cs := #[.int .i64 ((rd_T112 l0_2 x53_3).f0), .int .i64 0]) ?_ 1 _ rfl; (with_reducible repeat (first | refine blk_drewN ?_ _ | refine blk_drew ?_ | refine blk_alloc ?_ _)); refine blk_put (cs := #[.int .i64 0, .int .i64 0]) ?_ 0 _ rfl; (with_reducible repeat (first | refine blk_drewN ?_ _ | refine blk_drew ?_ | refine blk_alloc ?_ _)); exact BK232.out⟩
             have n2_ : Aside0 (Below w.heap.size w ((w29.setCell ⟨gb232, 0, none⟩ (.int .i64 ((rd_T112 l0_2 x53_3).f0))).setCell ⟨gb232, 1, none⟩ (.int .i64 ((rd_T112 l0_2 x53_3).f1)))) := ⟨bw⟩
             (try clear BK228)
             (try clear BK232)
             (try clear HB)
             generalize ((w29.setCell ⟨gb232, 0, none⟩ (.int .i64 ((rd_T112 l0_2 x53_3).f0))).setCell ⟨gb232, 1, none⟩ (.int .i64 ((rd_T112 l0_2 x53_3).f1))) = w32 at n0_ n1_ n2_ ⊢
             have BK228 := n0_
             have BK232 := n1_
             have HB := n2_
             clear n0_ n1_ n2_
             have n0_ := Aside0.mk (blk_drew BK228.out)
             have n1_ := Aside0.mk (blk_drew BK232.out)
             have n2_ := Aside0.mk (below_drew1 HB.out)
             clear BK228
             clear BK232
             clear HB
             have BK228 := n0_
             have BK232 := n1_
             have HB := n2_
             clear n0_ n1_ n2_
             refine start_ (n := 38) (S := fun w' => w'.cell? ⟨gb232, 0, none⟩ = some (.int .i64 ((rd_T112 l0_2 x53_3).f0)) ∧ w'.cell? ⟨gb232, 1, none⟩ = some (.int .i64 ((rd_T112 l0_2 x53_3).f1))) (ds := []) (bz 38 0) (by kernel_rfl) rfl rfl ⟨(blk_cell BK232.out 0).trans rfl, (blk_cell BK232.out 1).trans rfl⟩ (fun hHeld => ?_); refine with_tabW impl_WorkValid.tab12 impl_WorkValid.bits12 (fun HT_ HW_ => ?_)
             generalize w32.drew = w33 at BK228 BK232 HB hHeld ⊢
             refine pure_ (i := 0) (N := some 58) (v := ?_) (a' := ?_) (bz 38 1) rfl rfl (any_of HT_.out (by kernel_rfl)) (fun _ _ _ h => h) (Or.inl ⟨by rfl, ?_⟩) ?_ ?_
             rotate_left
             ·intro w'
              go_simp
              with_reducible rfl
             rotate_left
             ·simp only [Act.put, List.setIfInBounds_toArray, List.set_cons_zero, List.set_cons_succ, i64_w, i32_w]
              rfl
             refine take_ (i := 1) (N := some 59) (v := ?_) (a' := ?_) (bz 38 3) rfl rfl (take_ofW HT_.out HW_.out (by kernel_rfl)) (fun _ _ _ h => h) (Or.inl ⟨by rfl, ?_⟩) hHeld ?_ ?_
             rotate_left
             ·rintro w' ⟨s0, s1⟩
              go_simp
              with_reducible rfl
             rotate_left
             ·simp only [Act.put, List.setIfInBounds_toArray, List.set_cons_zero, List.set_cons_succ, i64_w, i32_w]
              rfl
             refine pure_ (i := 2) (N := some 60) (v := ?_) (a' := ?_) (bz 38 7) rfl rfl (any_of HT_.out (by kernel_rfl)) (fun _ _ _ h => h) (Or.inl ⟨by rfl, ?_⟩) ?_ ?_
             rotate_left
             ·intro w'
              go_simp
              with_reducible rfl
             rotate_left
             ·simp only [Act.put, List.setIfInBounds_toArray, List.set_cons_zero, List.set_cons_succ, i64_w, i32_w]
              rfl
             refine pure_ (i := 3) (N := some 61) (v := ?_) (a' := ?_) (bz 38 15) rfl rfl (any_of HT_.out (by kernel_rfl)) (fun _ _ _ h => h) (Or.inl ⟨by rfl, ?_⟩) ?_ ?_
             rotate_left
             ·intro w'
              go_simp
              with_reducible rfl
             rotate_left
             ·simp only [Act.put, List.setIfInBounds_toArray, List.set_cons_zero, List.set_cons_succ, i64_w, i32_w]
              rfl
             refine pure_ (i := 4) (N := some 62) (v := undef) (a' := ?_) (bz 38 31) rfl rfl (any_of HT_.out (by kernel_rfl)) (fun _ _ _ h => h) (Or.inr ⟨by rfl, rfl⟩) ?_ ?_
             rotate_left
             ·simp only [Act.put, List.setIfInBounds_toArray, List.set_cons_zero, List.set_cons_succ, i64_w, i32_w]
              rfl
             refine pure_ (i := 5) (N := some 63) (v := undef) (a' := ?_) (bz 38 63) rfl rfl (any_of HT_.out (by kernel_rfl)) (fun _ _ _ h => h) (Or.inr ⟨by rfl, rfl⟩) ?_ ?_
             rotate_left
             ·simp only [Act.put, List.setIfInBounds_toArray, List.set_cons_zero, List.set_cons_succ, i64_w, i32_w]
              rfl
             refine pure_ (i := 6) (N := some 64) (v := undef) (a' := ?_) (bz 38 127) rfl rfl (any_of HT_.out (by kernel_rfl)) (fun _ _ _ h => h) (Or.inr ⟨by rfl, rfl⟩) ?_ ?_
             rotate_left
             ·simp only [Act.put, List.setIfInBounds_toArray, List.set_cons_zero, List.set_cons_succ, i64_w, i32_w]
              rfl
             refine pure_ (i := 7) (N := some 65) (v := ?_) (a' := ?_) (bz 38 255) rfl rfl (any_of HT_.out (by kernel_rfl)) (fun _ _ _ h => h) (Or.inl ⟨by rfl, ?_⟩) ?_ ?_
             rotate_left
             ·intro w'
              go_simp
              with_reducible rfl
             rotate_left
             ·simp only [Act.put, List.setIfInBounds_toArray, List.set_cons_zero, List.set_cons_succ, i64_w, i32_w]
              rfl
             refine pure_ (i := 8) (N := some 66) (v := ?_) (a' := ?_) (bz 38 511) rfl rfl (any_of HT_.out (by kernel_rfl)) (fun _ _ _ h => h) (Or.inl ⟨by rfl, ?_⟩) ?_ ?_
             rotate_left
             ·intro w'
              go_simp
              with_reducible rfl
             rotate_left
             ·simp only [Act.put, List.setIfInBounds_toArray, List.set_cons_zero, List.set_cons_succ, i64_w, i32_w]
              rfl
             refine pure_ (i := 9) (N := some 67) (v := undef) (a' := ?_) (bz 38 1023) rfl rfl (any_of HT_.out (by kernel_rfl)) (fun _ _ _ h => h) (Or.inr ⟨by rfl, rfl⟩) ?_ ?_
             rotate_left
             ·simp only [Act.put, List.setIfInBounds_toArray, List.set_cons_zero, List.set_cons_succ, i64_w, i32_w]
              rfl
             refine pure_ (i := 10) (N := some 68) (v := undef) (a' := ?_) (bz 38 2047) rfl rfl (any_of HT_.out (by kernel_rfl)) (fun _ _ _ h => h) (Or.inr ⟨by rfl, rfl⟩) ?_ ?_
             rotate_left
             ·simp only [Act.put, List.setIfInBounds_toArray, List.set_cons_zero, List.set_cons_succ, i64_w, i32_w]
              rfl
             refine pure_ (i := 11) (N := some 69) (v := undef) (a' := ?_) (bz 38 4095) rfl rfl (any_of HT_.out (by kernel_rfl)) (fun _ _ _ h => h) (Or.inr ⟨by rfl, rfl⟩) ?_ ?_
             rotate_left
             ·simp only [Act.put, List.setIfInBounds_toArray, List.set_cons_zero, List.set_cons_succ, i64_w, i32_w]
              rfl
             refine pure_ (i := 12) (N := some 70) (v := ?_) (a' := ?_) (bz 38 8191) rfl rfl (any_of HT_.out (by kernel_rfl)) (fun _ _ _ h => h) (Or.inl ⟨by rfl, ?_⟩) ?_ ?_
             rotate_left
             ·intro w'
              go_simp
              with_reducible rfl
             rotate_left
             ·simp only [Act.put, List.setIfInBounds_toArray, List.set_cons_zero, List.set_cons_succ, i64_w, i32_w]
              rfl
             refine pure_ (i := 13) (N := some 71) (v := ?_) (a' := ?_) (bz 38 16383) rfl rfl (any_of HT_.out (by kernel_rfl)) (fun _ _ _ h => h) (Or.inl ⟨by rfl, ?_⟩) ?_ ?_
             rotate_left
             ·intro w'
              go_simp
              with_reducible rfl
             rotate_left
             ·simp only [Act.put, List.setIfInBounds_toArray, List.set_cons_zero, List.set_cons_succ, i64_w, i32_w]
              rfl
             refine pure_ (i := 14) (N := some 72) (v := undef) (a' := ?_) (bz 38 32767) rfl rfl (any_of HT_.out (by kernel_rfl)) (fun _ _ _ h => h) (Or.inr ⟨by rfl, rfl⟩) ?_ ?_
             rotate_left
             ·simp only [Act.put, List.setIfInBounds_toArray, List.set_cons_zero, List.set_cons_succ, i64_w, i32_w]
              rfl
             refine pure_ (i := 15) (N := some 73) (v := undef) (a' := ?_) (bz 38 65535) rfl rfl (any_of HT_.out (by kernel_rfl)) (fun _ _ _ h => h) (Or.inr ⟨by rfl, rfl⟩) ?_ ?_
             rotate_left
             ·simp only [Act.put, List.setIfInBounds_toArray, List.set_cons_zero, List.set_cons_succ, i64_w, i32_w]
              rfl
             refine pure_ (i := 16) (N := some 74) (v := undef) (a' := ?_) (bz 38 131071) rfl rfl (any_of HT_.out (by kernel_rfl)) (fun _ _ _ h => h) (Or.inr ⟨by rfl, rfl⟩) ?_ ?_
             rotate_left
             ·simp only [Act.put, List.setIfInBounds_toArray, List.set_cons_zero, List.set_cons_succ, i64_w, i32_w]
              rfl
             refine pure_ (i := 17) (N := some 75) (v := undef) (a' := ?_) (bz 38 262143) rfl rfl (any_of HT_.out (by kernel_rfl)) (fun _ _ _ h => h) (Or.inr ⟨by rfl, rfl⟩) ?_ ?_
             rotate_left
             ·simp only [Act.put, List.setIfInBounds_toArray, List.set_cons_zero, List.set_cons_succ, i64_w, i32_w]
              rfl
             refine pure_ (i := 18) (N := some 76) (v := undef) (a' := ?_) (bz 38 524287) rfl rfl (any_of HT_.out (by kernel_rfl)) (fun _ _ _ h => h) (Or.inr ⟨by rfl, rfl⟩) ?_ ?_
             rotate_left
             ·simp only [Act.put, List.setIfInBounds_toArray, List.set_cons_zero, List.set_cons_succ, i64_w, i32_w]
              rfl
             refine pure_ (i := 19) (N := some 77) (v := undef) (a' := ?_) (bz 38 1048575) rfl rfl (any_of HT_.out (by kernel_rfl)) (fun _ _ _ h => h) (Or.inr ⟨by rfl, rfl⟩) ?_ ?_
             rotate_left
             ·simp only [Act.put, List.setIfInBounds_toArray, List.set_cons_zero, List.set_cons_succ, i64_w, i32_w]
              rfl
             refine pure_ (i := 20) (N := some 78) (v := ?_) (a' := ?_) (bz 38 2097151) rfl rfl (any_of HT_.out (by kernel_rfl)) (fun _ _ _ h => h) (Or.inl ⟨by rfl, ?_⟩) ?_ ?_
             rotate_left
             ·intro w'
              go_simp
              with_reducible rfl
             rotate_left
             ·simp only [Act.put, List.setIfInBounds_toArray, List.set_cons_zero, List.set_cons_succ, i64_w, i32_w]
              rfl
             refine pure_ (i := 21) (N := some 79) (v := ?_) (a' := ?_) (bz 38 4194303) rfl rfl (any_of HT_.out (by kernel_rfl)) (fun _ _ _ h => h) (Or.inl ⟨by rfl, ?_⟩) ?_ ?_
             rotate_left
             ·intro w'
              go_simp
              with_reducible rfl
             rotate_left
             ·simp only [Act.put, List.setIfInBounds_toArray, List.set_cons_zero, List.set_cons_succ, i64_w, i32_w]
              rfl
             refine pure_ (i := 22) (N := some 80) (v := undef) (a' := ?_) (bz 38 8388607) rfl rfl (any_of HT_.out (by kernel_rfl)) (fun _ _ _ h => h) (Or.inr ⟨by rfl, rfl⟩) ?_ ?_
             rotate_left
             ·simp only [Act.put, List.setIfInBounds_toArray, List.set_cons_zero, List.set_cons_succ, i64_w, i32_w]
              rfl
             refine pure_ (i := 23) (N := some 81) (v := undef) (a' := ?_) (bz 38 16777215) rfl rfl (any_of HT_.out (by kernel_rfl)) (fun _ _ _ h => h) (Or.inr ⟨by rfl, rfl⟩) ?_ ?_
             rotate_left
             ·simp only [Act.put, List.setIfInBounds_toArray, List.set_cons_zero, List.set_cons_succ, i64_w, i32_w]
              rfl
             refine pure_ (i := 24) (N := some 82) (v := undef) (a' := ?_) (bz 38 33554431) rfl rfl (any_of HT_.out (by kernel_rfl)) (fun _ _ _ h => h) (Or.inr ⟨by rfl, rfl⟩) ?_ ?_
             rotate_left
             ·simp only [Act.put, List.setIfInBounds_toArray, List.set_cons_zero, List.set_cons_succ, i64_w, i32_w]
              rfl
             refine pure_ (i := 25) (N := some 83) (v := undef) (a' := ?_) (bz 38 67108863) rfl rfl (any_of HT_.out (by kernel_rfl)) (fun _ _ _ h => h) (Or.inr ⟨by rfl, rfl⟩) ?_ ?_
             rotate_left
             ·simp only [Act.put, List.setIfInBounds_toArray, List.set_cons_zero, List.set_cons_succ, i64_w, i32_w]
              rfl
             refine pure_ (i := 26) (N := some 84) (v := undef) (a' := ?_) (bz 38 134217727) rfl rfl (any_of HT_.out (by kernel_rfl)) (fun _ _ _ h => h) (Or.inr ⟨by rfl, rfl⟩) ?_ ?_
             rotate_left
             ·simp only [Act.put, List.setIfInBounds_toArray, List.set_cons_zero, List.set_cons_succ, i64_w, i32_w]
              rfl
             refine pure_ (i := 27) (N := some 85) (v := undef) (a' := ?_) (bz 38 268435455) rfl rfl (any_of HT_.out (by kernel_rfl)) (fun _ _ _ h => h) (Or.inr ⟨by rfl, rfl⟩) ?_ ?_
             rotate_left
             ·simp only [Act.put, List.setIfInBounds_toArray, List.set_cons_zero, List.set_cons_succ, i64_w, i32_w]
              rfl
             refine pure_ (i := 28) (N := some 86) (v := undef) (a' := ?_) (bz 38 536870911) rfl rfl (any_of HT_.out (by kernel_rfl)) (fun _ _ _ h => h) (Or.inr ⟨by rfl, rfl⟩) ?_ ?_
             rotate_left
             ·simp only [Act.put, List.setIfInBounds_toArray, List.set_cons_zero, List.set_cons_succ, i64_w, i32_w]
              rfl
             refine pure_ (i := 29) (N := some 87) (v := ?_) (a' := ?_) (bz 38 1073741823) rfl rfl (any_of HT_.out (by kernel_rfl)) (fun _ _ _ h => h) (Or.inl ⟨by rfl, ?_⟩) ?_ ?_
             rotate_left
             ·intro w'
              go_simp
              with_reducible rfl
             rotate_left
             ·simp only [Act.put, List.setIfInBounds_toArray, List.set_cons_zero, List.set_cons_succ, i64_w, i32_w]
              rfl
             refine pure_ (i := 30) (N := some 88) (v := ?_) (a' := ?_) (bz 38 2147483647) rfl rfl (any_of HT_.out (by kernel_rfl)) (fun _ _ _ h => h) (Or.inl ⟨by rfl, ?_⟩) ?_ ?_
             rotate_left
             ·intro w'
              go_simp
              with_reducible rfl
             rotate_left
             ·simp only [Act.put, List.setIfInBounds_toArray, List.set_cons_zero, List.set_cons_succ, i64_w, i32_w]
              rfl
             refine pure_ (i := 31) (N := some 89) (v := undef) (a' := ?_) (bz 38 4294967295) rfl rfl (any_of HT_.out (by kernel_rfl)) (fun _ _ _ h => h) (Or.inr ⟨by rfl, rfl⟩) ?_ ?_
             rotate_left
             ·simp only [Act.put, List.setIfInBounds_toArray, List.set_cons_zero, List.set_cons_succ, i64_w, i32_w]
              rfl
             refine pure_ (i := 32) (N := some 90) (v := undef) (a' := ?_) (bz 38 8589934591) rfl rfl (any_of HT_.out (by kernel_rfl)) (fun _ _ _ h => h) (Or.inr ⟨by rfl, rfl⟩) ?_ ?_
             rotate_left
             ·simp only [Act.put, List.setIfInBounds_toArray, List.set_cons_zero, List.set_cons_succ, i64_w, i32_w]
              rfl
             refine pure_ (i := 33) (N := some 91) (v := undef) (a' := ?_) (bz 38 17179869183) rfl rfl (any_of HT_.out (by kernel_rfl)) (fun _ _ _ h => h) (Or.inr ⟨by rfl, rfl⟩) ?_ ?_
             rotate_left
             ·simp only [Act.put, List.setIfInBounds_toArray, List.set_cons_zero, List.set_cons_succ, i64_w, i32_w]
              rfl
             refine pure_ (i := 34) (N := some 92) (v := undef) (a' := ?_) (bz 38 34359738367) rfl rfl (any_of HT_.out (by kernel_rfl)) (fun _ _ _ h => h) (Or.inr ⟨by rfl, rfl⟩) ?_ ?_
             rotate_left
             ·simp only [Act.put, List.setIfInBounds_toArray, List.set_cons_zero, List.set_cons_succ, i64_w, i32_w]
              rfl
             refine pure_ (i := 35) (N := some 93) (v := undef) (a' := ?_) (bz 38 68719476735) rfl rfl (any_of HT_.out (by kernel_rfl)) (fun _ _ _ h => h) (Or.inr ⟨by rfl, rfl⟩) ?_ ?_
             rotate_left
             ·simp only [Act.put, List.setIfInBounds_toArray, List.set_cons_zero, List.set_cons_succ, i64_w, i32_w]
              rfl
             refine pure_ (i := 36) (N := some 94) (v := undef) (a' := ?_) (bz 38 137438953471) rfl rfl (any_of HT_.out (by kernel_rfl)) (fun _ _ _ h => h) (Or.inr ⟨by rfl, rfl⟩) ?_ ?_
             rotate_left
             ·simp only [Act.put, List.setIfInBounds_toArray, List.set_cons_zero, List.set_cons_succ, i64_w, i32_w]
              rfl
             refine pure_ (i := 37) (N := some 95) (v := ?_) (a' := ?_) (bz 38 274877906943) rfl rfl (any_of HT_.out (by kernel_rfl)) (fun _ _ _ h => h) (Or.inl ⟨by rfl, ?_⟩) ?_ ?_
             rotate_left
             ·intro w'
              go_simp
              with_reducible rfl
             rotate_left
             ·simp only [Act.put, List.setIfInBounds_toArray, List.set_cons_zero, List.set_cons_succ, i64_w, i32_w]
              rfl
             refine done_ (done_of HT_.out (by kernel_rfl)) ?_
             try go_wp2
             go_ret
             exact ⟨by first | rfl | (simp [errW_none, errW_some] <;> rfl) | (simp [*, errW_none, errW_some] <;> rfl), bw⟩
            ·rw [if_neg c28] at H
             have c28b0 : decide (((rd_T112 l0_2 x53_3).f0) < 0) = false := decide_eq_false c28
             clear c28
             by_cases c34 : ((rd_T112 l0_2 x53_3).f0) > 9
             ·rw [if_pos c34] at H
              have c34b0 : decide (9 < ((rd_T112 l0_2 x53_3).f0)) = true := decide_eq_true c34
              clear c34
              obtain rfl := Option.some.inj H
              have p231 : 0 ≤ (x53_3 : Int) := of_decide_eq_true (by first | (with_reducible assumption) | assumption)
              have q231 : x53_3 < (l0_2.length : Int) := of_decide_eq_true (by first | (with_reducible assumption) | assumption)
              obtain ⟨ad231, e231, hx231_0, hx231_1⟩ := at_T112 HR0_2.out x53_3 p231 q231
              cases e231
              replace hx231_0 := (HB.out.cell (World.block_lt_of_cell? w _ hx231_0)).trans hx231_0
              replace hx231_1 := (HB.out.cell (World.block_lt_of_cell? w _ hx231_1)).trans hx231_1
              replace p231 := eq_true p231
              replace q231 := eq_true q231
              try go_wp2_with (first | ((with_reducible refine gate_dst (N := 5) rfl ?_); (try (refine gate_guard (by rfl) ?_; dsimp only)); refine box_event ?hg (N := 5) ?hd (cs := #[.int .i64 0, .int .i64 0]) (t := 112) ?hr ?_; (case hd => rfl); (case hg => rfl); (case hr => first | (go_simp; done) | (go_simp; rfl)); intro gb232 hg w35 hbox hb; have n0_ := bkB BK228 hb; have n1_ := Aside0.mk (below_step bw hb); have n2_ := Aside0.mk (hbox); have n3_ := Aside0.mk ((by rw [hg]; exact (below_size bw) : w.heap.size ≤ gb232)); have n4_ := Aside0.mk ((by rw [hg]; exact (below_size bw) : w.heap.size ≤ gb232)); have n5_ := Aside0.mk ((by rw [hg]; exact Nat.ne_of_lt (blk_lt (g := gb228) (o := .cells #[.slice A0_0 l0_0.length c0_0, .slice A0_1 l0_1.length c0_1, .slice (some ad231) l0_2.length c0_2] 73 (0, 0)) (bk BK228)) : gb228 ≠ gb232)); have n6_ := Aside0.mk ((by rw [hg]; exact Nat.ne_of_gt (blk_lt (g := gb228) (o := .cells #[.slice A0_0 l0_0.length c0_0, .slice A0_1 l0_1.length c0_1, .slice (some ad231) l0_2.length c0_2] 73 (0, 0)) (bk BK228)) : gb232 ≠ gb228)); clear BK228 HB; have BK228 := n0_; have HB := n1_; have BK232 := n2_; have GW232 := n3_; have GE232 := n4_; have NB228_232 := n5_; have NB232_228 := n6_; clear n0_ n1_ n2_ n3_ n4_ n5_ n6_; clear hb hbox hg; have hnb36 := NB232_228.out; have hnc36 := NB228_232.out; have hcz37_0 : w35.cell? ⟨gb232, 0, none⟩ = some (.int .i64 0) := (blk_cell BK232.out 0).trans rfl; have hcz37_1 : w35.cell? ⟨gb232, 1, none⟩ = some (.int .i64 0) := (blk_cell BK232.out 1).trans rfl; have hfz37_0 := blk_frozen BK232.out 0; have hfz37_1 := blk_frozen BK232.out 1))
              have n0_ : Aside0 (((w35.setCell ⟨gb232, 0, none⟩ (.int .i64 ((rd_T112 l0_2 x53_3).f0))).setCell ⟨gb232, 1, none⟩ (.int .i64 ((rd_T112 l0_2 x53_3).f1))).heap[gb228]? = some (.cells #[.slice A0_0 l0_0.length c0_0, .slice A0_1 l0_1.length c0_1, .slice (some ad231) l0_2.length c0_2] 73 (0, 0))) := ⟨by (with_reducible repeat (first | refine blk_drewN ?_ _ | refine blk_drew ?_ | refine blk_alloc ?_ _)); refine blk_far ?_ NB228_232.out _; (with_reducible repeat (first | refine blk_drewN ?_ _ | refine blk_drew ?_ | refine blk_alloc ?_ _)); refine blk_far ?_ NB228_232.out _; (with_reducible repeat (first | refine blk_drewN ?_ _ | refine blk_drew ?_ | refine blk_alloc ?_ _)); exact BK228.out⟩
              have n1_ : Aside0 (((w35.setCell ⟨gb232, 0, none⟩ (.int .i64 ((rd_T112 l0_2 x53_3).f0))).setCell ⟨gb232, 1, none⟩ (.int .i64 ((rd_T112 l0_2 x53_3).f1))).heap[gb232]? = some (.cells #[.int .i64 ((rd_T112 l0_2 x53_3).f0), .int .i64 ((rd_T112 l0_2 x53_3).f1)] 112 (0, 0))) := ⟨by (with_reducible repeat (first | refine blk_drewN ?_ _ | refine blk_drew ?_ | refine blk_alloc ?_ _)); refine blk_put (cs := #[.int .i64 ((rd_T112 l0_2 x53_3).f0), .int .i64 0]) ?_ 1 _ rfl; (with_reducible repeat (first | refine blk_drewN ?_ _ | refine blk_drew ?_ | refine blk_alloc ?_ _)); refine blk_put (cs := #[.int .i64 0, .int .i64 0]) ?_ 0 _ rfl; (with_reducible repeat (first | refine blk_drewN ?_ _ | refine blk_drew ?_ | refine blk_alloc ?_ _)); exact BK232.out⟩
              have n2_ : Aside0 (Below w.heap.size w ((w35.setCell ⟨gb232, 0, none⟩ (.int .i64 ((rd_T112 l0_2 x53_3).f0))).setCell ⟨gb232, 1, none⟩ (.int .i64 ((rd_T112 l0_2 x53_3).f1)))) := ⟨bw⟩
              (try clear BK228)
              (try clear BK232)
              (try clear HB)
              generalize ((w35.setCell ⟨gb232, 0, none⟩ (.int .i64 ((rd_T112 l0_2 x53_3).f0))).setCell ⟨gb232, 1, none⟩ (.int .i64 ((rd_T112 l0_2 x53_3).f1))) = w38 at n0_ n1_ n2_ ⊢
              have BK228 := n0_
              have BK232 := n1_
              have HB := n2_
              clear n0_ n1_ n2_
              have n0_ := Aside0.mk (blk_drew BK228.out)
              have n1_ := Aside0.mk (blk_drew BK232.out)
              have n2_ := Aside0.mk (below_drew1 HB.out)
              clear BK228
              clear BK232
              clear HB
              have BK228 := n0_
              have BK232 := n1_
              have HB := n2_
              clear n0_ n1_ n2_
              refine start_ (n := 38) (S := fun w' => w'.cell? ⟨gb232, 0, none⟩ = some (.int .i64 ((rd_T112 l0_2 x53_3).f0)) ∧ w'.cell? ⟨gb232, 1, none⟩ = some (.int .i64 ((rd_T112 l0_2 x53_3).f1))) (ds := []) (bz 38 0) (by kernel_rfl) rfl rfl ⟨(blk_cell BK232.out 0).trans rfl, (blk_cell BK232.out 1).trans rfl⟩ (fun hHeld => ?_); refine with_tabW impl_WorkValid.tab12 impl_WorkValid.bits12 (fun HT_ HW_ => ?_)
              generalize w38.drew = w39 at BK228 BK232 HB hHeld ⊢
              refine pure_ (i := 0) (N := some 58) (v := ?_) (a' := ?_) (bz 38 1) rfl rfl (any_of HT_.out (by kernel_rfl)) (fun _ _ _ h => h) (Or.inl ⟨by rfl, ?_⟩) ?_ ?_
              rotate_left
              ·intro w'
               go_simp
               with_reducible rfl
              rotate_left
              ·simp only [Act.put, List.setIfInBounds_toArray, List.set_cons_zero, List.set_cons_succ, i64_w, i32_w]
               rfl
              refine take_ (i := 1) (N := some 59) (v := ?_) (a' := ?_) (bz 38 3) rfl rfl (take_ofW HT_.out HW_.out (by kernel_rfl)) (fun _ _ _ h => h) (Or.inl ⟨by rfl, ?_⟩) hHeld ?_ ?_
              rotate_left
              ·rintro w' ⟨s0, s1⟩
               go_simp
               with_reducible rfl
              rotate_left
              ·simp only [Act.put, List.setIfInBounds_toArray, List.set_cons_zero, List.set_cons_succ, i64_w, i32_w]
               rfl
              refine pure_ (i := 2) (N := some 60) (v := ?_) (a' := ?_) (bz 38 7) rfl rfl (any_of HT_.out (by kernel_rfl)) (fun _ _ _ h => h) (Or.inl ⟨by rfl, ?_⟩) ?_ ?_
              rotate_left
              ·intro w'
               go_simp
               with_reducible rfl
              rotate_left
              ·simp only [Act.put, List.setIfInBounds_toArray, List.set_cons_zero, List.set_cons_succ, i64_w, i32_w]
               rfl
              refine pure_ (i := 3) (N := some 61) (v := ?_) (a' := ?_) (bz 38 15) rfl rfl (any_of HT_.out (by kernel_rfl)) (fun _ _ _ h => h) (Or.inl ⟨by rfl, ?_⟩) ?_ ?_
              rotate_left
              ·intro w'
               go_simp
               with_reducible rfl
              rotate_left
              ·simp only [Act.put, List.setIfInBounds_toArray, List.set_cons_zero, List.set_cons_succ, i64_w, i32_w]
               rfl
              refine pure_ (i := 4) (N := some 62) (v := ?_) (a' := ?_) (bz 38 31) rfl rfl (any_of HT_.out (by kernel_rfl)) (fun _ _ _ h => h) (Or.inl ⟨by rfl, ?_⟩) ?_ ?_
              rotate_left
              ·intro w'
               go_simp
               with_reducible rfl
              rotate_left
              ·simp only [Act.put, List.setIfInBounds_toArray, List.set_cons_zero, List.set_cons_succ, i64_w, i32_w]
               rfl
              refine take_ (i := 5) (N := some 63) (v := ?_) (a' := ?_) (bz 38 63) rfl rfl (take_ofW HT_.out HW_.out (by kernel_rfl)) (fun _ _ _ h => h) (Or.inl ⟨by rfl, ?_⟩) hHeld ?_ ?_
              rotate_left
              ·rintro w' ⟨s0, s1⟩
               go_simp
               with_reducible rfl
              rotate_left
              ·simp only [Act.put, List.setIfInBounds_toArray, List.set_cons_zero, List.set_cons_succ, i64_w, i32_w]
               rfl
              refine pure_ (i := 6) (N := some 64) (v := ?_) (a' := ?_) (bz 38 127) rfl rfl (any_of HT_.out (by kernel_rfl)) (fun _ _ _ h => h) (Or.inl ⟨by rfl, ?_⟩) ?_ ?_
              rotate_left
              ·intro w'
               go_simp
               with_reducible rfl
              rotate_left
              ·simp only [Act.put, List.setIfInBounds_toArray, List.set_cons_zero, List.set_cons_succ, i64_w, i32_w]
               rfl
              refine pure_ (i := 7) (N := some 65) (v := ?_) (a' := ?_) (bz 38 255) rfl rfl (any_of HT_.out (by kernel_rfl)) (fun _ _ _ h => h) (Or.inl ⟨by rfl, ?_⟩) ?_ ?_
              rotate_left
              ·intro w'
               go_simp
               with_reducible rfl
              rotate_left
              ·simp only [Act.put, List.setIfInBounds_toArray, List.set_cons_zero, List.set_cons_succ, i64_w, i32_w]
               rfl
              refine pure_ (i := 8) (N := some 66) (v := ?_) (a' := ?_) (bz 38 511) rfl rfl (any_of HT_.out (by kernel_rfl)) (fun _ _ _ h => h) (Or.inl ⟨by rfl, ?_⟩) ?_ ?_
              rotate_left
              ·intro w'
               go_simp
               with_reducible rfl
              rotate_left
              ·simp only [Act.put, List.setIfInBounds_toArray, List.set_cons_zero, List.set_cons_succ, i64_w, i32_w]
               rfl
              refine pure_ (i := 9) (N := some 67) (v := undef) (a' := ?_) (bz 38 1023) rfl rfl (any_of HT_.out (by kernel_rfl)) (fun _ _ _ h => h) (Or.inr ⟨by rfl, rfl⟩) ?_ ?_
              rotate_left
              ·simp only [Act.put, List.setIfInBounds_toArray, List.set_cons_zero, List.set_cons_succ, i64_w, i32_w]
               rfl
              refine pure_ (i := 10) (N := some 68) (v := undef) (a' := ?_) (bz 38 2047) rfl rfl (any_of HT_.out (by kernel_rfl)) (fun _ _ _ h => h) (Or.inr ⟨by rfl, rfl⟩) ?_ ?_
              rotate_left
              ·simp only [Act.put, List.setIfInBounds_toArray, List.set_cons_zero, List.set_cons_succ, i64_w, i32_w]
               rfl
              refine pure_ (i := 11) (N := some 69) (v := undef) (a' := ?_) (bz 38 4095) rfl rfl (any_of HT_.out (by kernel_rfl)) (fun _ _ _ h => h) (Or.inr ⟨by rfl, rfl⟩) ?_ ?_
              rotate_left
              ·simp only [Act.put, List.setIfInBounds_toArray, List.set_cons_zero, List.set_cons_succ, i64_w, i32_w]
               rfl
              refine pure_ (i := 12) (N := some 70) (v := ?_) (a' := ?_) (bz 38 8191) rfl rfl (any_of HT_.out (by kernel_rfl)) (fun _ _ _ h => h) (Or.inl ⟨by rfl, ?_⟩) ?_ ?_
              rotate_left
              ·intro w'
               go_simp
               with_reducible rfl
              rotate_left
              ·simp only [Act.put, List.setIfInBounds_toArray, List.set_cons_zero, List.set_cons_succ, i64_w, i32_w]
               rfl
              refine pure_ (i := 13) (N := some 71) (v := ?_) (a' := ?_) (bz 38 16383) rfl rfl (any_of HT_.out (by kernel_rfl)) (fun _ _ _ h => h) (Or.inl ⟨by rfl, ?_⟩) ?_ ?_
              rotate_left
              ·intro w'
               go_simp
               with_reducible rfl
              rotate_left
              ·simp only [Act.put, List.setIfInBounds_toArray, List.set_cons_zero, List.set_cons_succ, i64_w, i32_w]
               rfl
              refine pure_ (i := 14) (N := some 72) (v := undef) (a' := ?_) (bz 38 32767) rfl rfl (any_of HT_.out (by kernel_rfl)) (fun _ _ _ h => h) (Or.inr ⟨by rfl, rfl⟩) ?_ ?_
              rotate_left
              ·simp only [Act.put, List.setIfInBounds_toArray, List.set_cons_zero, List.set_cons_succ, i64_w, i32_w]
               rfl
              refine pure_ (i := 15) (N := some 73) (v := undef) (a' := ?_) (bz 38 65535) rfl rfl (any_of HT_.out (by kernel_rfl)) (fun _ _ _ h => h) (Or.inr ⟨by rfl, rfl⟩) ?_ ?_
              rotate_left
              ·simp only [Act.put, List.setIfInBounds_toArray, List.set_cons_zero, List.set_cons_succ, i64_w, i32_w]
               rfl
              refine pure_ (i := 16) (N := some 74) (v := undef) (a' := ?_) (bz 38 131071) rfl rfl (any_of HT_.out (by kernel_rfl)) (fun _ _ _ h => h) (Or.inr ⟨by rfl, rfl⟩) ?_ ?_
              rotate_left
              ·simp only [Act.put, List.setIfInBounds_toArray, List.set_cons_zero, List.set_cons_succ, i64_w, i32_w]
               rfl
              refine pure_ (i := 17) (N := some 75) (v := undef) (a' := ?_) (bz 38 262143) rfl rfl (any_of HT_.out (by kernel_rfl)) (fun _ _ _ h => h) (Or.inr ⟨by rfl, rfl⟩) ?_ ?_
              rotate_left
              ·simp only [Act.put, List.setIfInBounds_toArray, List.set_cons_zero, List.set_cons_succ, i64_w, i32_w]
               rfl
              refine pure_ (i := 18) (N := some 76) (v := undef) (a' := ?_) (bz 38 524287) rfl rfl (any_of HT_.out (by kernel_rfl)) (fun _ _ _ h => h) (Or.inr ⟨by rfl, rfl⟩) ?_ ?_
              rotate_left
              ·simp only [Act.put, List.setIfInBounds_toArray, List.set_cons_zero, List.set_cons_succ, i64_w, i32_w]
               rfl
              refine pure_ (i := 19) (N := some 77) (v := undef) (a' := ?_) (bz 38 1048575) rfl rfl (any_of HT_.out (by kernel_rfl)) (fun _ _ _ h => h) (Or.inr ⟨by rfl, rfl⟩) ?_ ?_
              rotate_left
              ·simp only [Act.put, List.setIfInBounds_toArray, List.set_cons_zero, List.set_cons_succ, i64_w, i32_w]
               rfl
              refine pure_ (i := 20) (N := some 78) (v := ?_) (a' := ?_) (bz 38 2097151) rfl rfl (any_of HT_.out (by kernel_rfl)) (fun _ _ _ h => h) (Or.inl ⟨by rfl, ?_⟩) ?_ ?_
              rotate_left
              ·intro w'
               go_simp
               with_reducible rfl
              rotate_left
              ·simp only [Act.put, List.setIfInBounds_toArray, List.set_cons_zero, List.set_cons_succ, i64_w, i32_w]
               rfl
              refine pure_ (i := 21) (N := some 79) (v := ?_) (a' := ?_) (bz 38 4194303) rfl rfl (any_of HT_.out (by kernel_rfl)) (fun _ _ _ h => h) (Or.inl ⟨by rfl, ?_⟩) ?_ ?_
              rotate_left
              ·intro w'
               go_simp
               with_reducible rfl
              rotate_left
              ·simp only [Act.put, List.setIfInBounds_toArray, List.set_cons_zero, List.set_cons_succ, i64_w, i32_w]
               rfl
              refine pure_ (i := 22) (N := some 80) (v := undef) (a' := ?_) (bz 38 8388607) rfl rfl (any_of HT_.out (by kernel_rfl)) (fun _ _ _ h => h) (Or.inr ⟨by rfl, rfl⟩) ?_ ?_
              rotate_left
              ·simp only [Act.put, List.setIfInBounds_toArray, List.set_cons_zero, List.set_cons_succ, i64_w, i32_w]
               rfl
              refine pure_ (i := 23) (N := some 81) (v := undef) (a' := ?_) (bz 38 16777215) rfl rfl (any_of HT_.out (by kernel_rfl)) (fun _ _ _ h => h) (Or.inr ⟨by rfl, rfl⟩) ?_ ?_
              rotate_left
              ·simp only [Act.put, List.setIfInBounds_toArray, List.set_cons_zero, List.set_cons_succ, i64_w, i32_w]
               rfl
              refine pure_ (i := 24) (N := some 82) (v := undef) (a' := ?_) (bz 38 33554431) rfl rfl (any_of HT_.out (by kernel_rfl)) (fun _ _ _ h => h) (Or.inr ⟨by rfl, rfl⟩) ?_ ?_
              rotate_left
              ·simp only [Act.put, List.setIfInBounds_toArray, List.set_cons_zero, List.set_cons_succ, i64_w, i32_w]
               rfl
              refine pure_ (i := 25) (N := some 83) (v := undef) (a' := ?_) (bz 38 67108863) rfl rfl (any_of HT_.out (by kernel_rfl)) (fun _ _ _ h => h) (Or.inr ⟨by rfl, rfl⟩) ?_ ?_
              rotate_left
              ·simp only [Act.put, List.setIfInBounds_toArray, List.set_cons_zero, List.set_cons_succ, i64_w, i32_w]
               rfl
              refine pure_ (i := 26) (N := some 84) (v := undef) (a' := ?_) (bz 38 134217727) rfl rfl (any_of HT_.out (by kernel_rfl)) (fun _ _ _ h => h) (Or.inr ⟨by rfl, rfl⟩) ?_ ?_
              rotate_left
              ·simp only [Act.put, List.setIfInBounds_toArray, List.set_cons_zero, List.set_cons_succ, i64_w, i32_w]
               rfl
              refine pure_ (i := 27) (N := some 85) (v := undef) (a' := ?_) (bz 38 268435455) rfl rfl (any_of HT_.out (by kernel_rfl)) (fun _ _ _ h => h) (Or.inr ⟨by rfl, rfl⟩) ?_ ?_
              rotate_left
              ·simp only [Act.put, List.setIfInBounds_toArray, List.set_cons_zero, List.set_cons_succ, i64_w, i32_w]
               rfl
              refine pure_ (i := 28) (N := some 86) (v := undef) (a' := ?_) (bz 38 536870911) rfl rfl (any_of HT_.out (by kernel_rfl)) (fun _ _ _ h => h) (Or.inr ⟨by rfl, rfl⟩) ?_ ?_
              rotate_left
              ·simp only [Act.put, List.setIfInBounds_toArray, List.set_cons_zero, List.set_cons_succ, i64_w, i32_w]
               rfl
              refine pure_ (i := 29) (N := some 87) (v := ?_) (a' := ?_) (bz 38 1073741823) rfl rfl (any_of HT_.out (by kernel_rfl)) (fun _ _ _ h => h) (Or.inl ⟨by rfl, ?_⟩) ?_ ?_
              rotate_left
              ·intro w'
               go_simp
               with_reducible rfl
              rotate_left
              ·simp only [Act.put, List.setIfInBounds_toArray, List.set_cons_zero, List.set_cons_succ, i64_w, i32_w]
               rfl
              refine pure_ (i := 30) (N := some 88) (v := ?_) (a' := ?_) (bz 38 2147483647) rfl rfl (any_of HT_.out (by kernel_rfl)) (fun _ _ _ h => h) (Or.inl ⟨by rfl, ?_⟩) ?_ ?_
              rotate_left
              ·intro w'
               go_simp
               with_reducible rfl
              rotate_left
              ·simp only [Act.put, List.setIfInBounds_toArray, List.set_cons_zero, List.set_cons_succ, i64_w, i32_w]
               rfl
              refine pure_ (i := 31) (N := some 89) (v := undef) (a' := ?_) (bz 38 4294967295) rfl rfl (any_of HT_.out (by kernel_rfl)) (fun _ _ _ h => h) (Or.inr ⟨by rfl, rfl⟩) ?_ ?_
              rotate_left
              ·simp only [Act.put, List.setIfInBounds_toArray, List.set_cons_zero, List.set_cons_succ, i64_w, i32_w]
               rfl
              refine pure_ (i := 32) (N := some 90) (v := undef) (a' := ?_) (bz 38 8589934591) rfl rfl (any_of HT_.out (by kernel_rfl)) (fun _ _ _ h => h) (Or.inr ⟨by rfl, rfl⟩) ?_ ?_
              rotate_left
              ·simp only [Act.put, List.setIfInBounds_toArray, List.set_cons_zero, List.set_cons_succ, i64_w, i32_w]
               rfl
              refine pure_ (i := 33) (N := some 91) (v := undef) (a' := ?_) (bz 38 17179869183) rfl rfl (any_of HT_.out (by kernel_rfl)) (fun _ _ _ h => h) (Or.inr ⟨by rfl, rfl⟩) ?_ ?_
              rotate_left
              ·simp only [Act.put, List.setIfInBounds_toArray, List.set_cons_zero, List.set_cons_succ, i64_w, i32_w]
               rfl
              refine pure_ (i := 34) (N := some 92) (v := undef) (a' := ?_) (bz 38 34359738367) rfl rfl (any_of HT_.out (by kernel_rfl)) (fun _ _ _ h => h) (Or.inr ⟨by rfl, rfl⟩) ?_ ?_
              rotate_left
              ·simp only [Act.put, List.setIfInBounds_toArray, List.set_cons_zero, List.set_cons_succ, i64_w, i32_w]
               rfl
              refine pure_ (i := 35) (N := some 93) (v := undef) (a' := ?_) (bz 38 68719476735) rfl rfl (any_of HT_.out (by kernel_rfl)) (fun _ _ _ h => h) (Or.inr ⟨by rfl, rfl⟩) ?_ ?_
              rotate_left
              ·simp only [Act.put, List.setIfInBounds_toArray, List.set_cons_zero, List.set_cons_succ, i64_w, i32_w]
               rfl
              refine pure_ (i := 36) (N := some 94) (v := undef) (a' := ?_) (bz 38 137438953471) rfl rfl (any_of HT_.out (by kernel_rfl)) (fun _ _ _ h => h) (Or.inr ⟨by rfl, rfl⟩) ?_ ?_
              rotate_left
              ·simp only [Act.put, List.setIfInBounds_toArray, List.set_cons_zero, List.set_cons_succ, i64_w, i32_w]
               rfl
              refine pure_ (i := 37) (N := some 95) (v := ?_) (a' := ?_) (bz 38 274877906943) rfl rfl (any_of HT_.out (by kernel_rfl)) (fun _ _ _ h => h) (Or.inl ⟨by rfl, ?_⟩) ?_ ?_
              rotate_left
              ·intro w'
               go_simp
               with_reducible rfl
              rotate_left
              ·simp only [Act.put, List.setIfInBounds_toArray, List.set_cons_zero, List.set_cons_succ, i64_w, i32_w]
               rfl
              refine done_ (done_of HT_.out (by kernel_rfl)) ?_
              try go_wp2
              go_ret
              exact ⟨by first | rfl | (simp [errW_none, errW_some] <;> rfl) | (simp [*, errW_none, errW_some] <;> rfl), bw⟩
             ·rw [if_neg c34] at H
              have c34b0 : decide (9 < ((rd_T112 l0_2 x53_3).f0)) = false := decide_eq_false c34
              clear c34
              by_cases c40 : ((rd_T112 l0_2 x53_3).f1) < 0
              ·rw [if_pos c40] at H
               have c40b0 : decide (((rd_T112 l0_2 x53_3).f1) < 0) = true := decide_eq_true c40
               clear c40
               obtain rfl := Option.some.inj H
               have p231 : 0 ≤ (x53_3 : Int) := of_decide_eq_true (by first | (with_reducible assumption) | assumption)
               have q231 : x53_3 < (l0_2.length : Int) := of_decide_eq_true (by first | (with_reducible assumption) | assumption)
               obtain ⟨ad231, e231, hx231_0, hx231_1⟩ := at_T112 HR0_2.out x53_3 p231 q231
               cases e231
               replace hx231_0 := (HB.out.cell (World.block_lt_of_cell? w _ hx231_0)).trans hx231_0
               replace hx231_1 := (HB.out.cell (World.block_lt_of_cell? w _ hx231_1)).trans hx231_1
               replace p231 := eq_true p231
               replace q231 := eq_true q231
               try go_wp2_with (first | ((with_reducible refine gate_dst (N := 5) rfl ?_); (try (refine gate_guard (by rfl) ?_; dsimp only)); refine box_event ?hg (N := 5) ?hd (cs := #[.int .i64 0, .int .i64 0]) (t := 112) ?hr ?_; (case hd => rfl); (case hg => rfl); (case hr => first | (go_simp; done) | (go_simp; rfl)); intro gb232 hg w41 hbox hb; have n0_ := bkB BK228 hb; have n1_ := Aside0.mk (below_step bw hb); have n2_ := Aside0.mk (hbox); have n3_ := Aside0.mk ((by rw [hg]; exact (below_size bw) : w.heap.size ≤ gb232)); have n4_ := Aside0.mk ((by rw [hg]; exact (below_size bw) : w.heap.size ≤ gb232)); have n5_ := Aside0.mk ((by rw [hg]; exact Nat.ne_of_lt (blk_lt (g := gb228) (o := .cells #[.slice A0_0 l0_0.length c0_0, .slice A0_1 l0_1.length c0_1, .slice (some ad231) l0_2.length c0_2] 73 (0, 0)) (bk BK228)) : gb228 ≠ gb232)); have n6_ := Aside0.mk ((by rw [hg]; exact Nat.ne_of_gt (blk_lt (g := gb228) (o := .cells #[.slice A0_0 l0_0.length c0_0, .slice A0_1 l0_1.length c0_1, .slice (some ad231) l0_2.length c0_2] 73 (0, 0)) (bk BK228)) : gb232 ≠ gb228)); clear BK228 HB; have BK228 := n0_; have HB := n1_; have BK232 := n2_; have GW232 := n3_; have GE232 := n4_; have NB228_232 := n5_; have NB232_228 := n6_; clear n0_ n1_ n2_ n3_ n4_ n5_ n6_; clear hb hbox hg; have hnb42 := NB232_228.out; have hnc42 := NB228_232.out; have hcz43_0 : w41.cell? ⟨gb232, 0, none⟩ = some (.int .i64 0) := (blk_cell BK232.out 0).trans rfl; have hcz43_1 : w41.cell? ⟨gb232, 1, none⟩ = some (.int .i64 0) := (blk_cell BK232.out 1).trans rfl; have hfz43_0 := blk_frozen BK232.out 0; have hfz43_1 := blk_frozen BK232.out 1))
               have n0_ : Aside0 (((w41.setCell ⟨gb232, 0, none⟩ (.int .i64 ((rd_T112 l0_2 x53_3).f0))).setCell ⟨gb232, 1, none⟩ (.int .i64 ((rd_T112 l0_2 x53_3).f1))).heap[gb228]? = some (.cells #[.slice A0_0 l0_0.length c0_0, .slice A0_1 l0_1.length c0_1, .slice (some ad231) l0_2.length c0_2] 73 (0, 0))) := ⟨by (with_reducible repeat (first | refine blk_drewN ?_ _ | refine blk_drew ?_ | refine blk_alloc ?_ _)); refine blk_far ?_ NB228_232.out _; (with_reducible repeat (first | refine blk_drewN ?_ _ | refine blk_drew ?_ | refine blk_alloc ?_ _)); refine blk_far ?_ NB228_232.out _; (with_reducible repeat (first | refine blk_drewN ?_ _ | refine blk_drew ?_ | refine blk_alloc ?_ _)); exact BK228.out⟩
               have n1_ : Aside0 (((w41.setCell ⟨gb232, 0, none⟩ (.int .i64 ((rd_T112 l0_2 x53_3).f0))).setCell ⟨gb232, 1, none⟩ (.int .i64 ((rd_T112 l0_2 x53_3).f1))).heap[gb232]? = some (.cells #[.int .i64 ((rd_T112 l0_2 x53_3).f0), .int .i64 ((rd_T112 l0_2 x53_3).f1)] 112 (0, 0))) := ⟨by (with_reducible repeat (first | refine blk_drewN ?_ _ | refine blk_drew ?_ | refine blk_alloc ?_ _)); refine blk_put (cs := #[.int .i64 ((rd_T112 l0_2 x53_3).f0), .int .i64 0]) ?_ 1 _ rfl; (with_reducible repeat (first | refine blk_drewN ?_ _ | refine blk_drew ?_ | refine blk_alloc ?_ _)); refine blk_put (cs := #[.int .i64 0, .int .i64 0]) ?_ 0 _ rfl; (with_reducible repeat (first | refine blk_drewN ?_ _ | refine blk_drew ?_ | refine blk_alloc ?_ _)); exact BK232.out⟩
               have n2_ : Aside0 (Below w.heap.size w ((w41.setCell ⟨gb232, 0, none⟩ (.int .i64 ((rd_T112 l0_2 x53_3).f0))).setCell ⟨gb232, 1, none⟩ (.int .i64 ((rd_T112 l0_2 x53_3).f1)))) := ⟨bw⟩
               (try clear BK228)
               (try clear BK232)
               (try clear HB)
               generalize ((w41.setCell ⟨gb232, 0, none⟩ (.int .i64 ((rd_T112 l0_2 x53_3).f0))).setCell ⟨gb232, 1, none⟩ (.int .i64 ((rd_T112 l0_2 x53_3).f1))) = w44 at n0_ n1_ n2_ ⊢
               have BK228 := n0_
               have BK232 := n1_
               have HB := n2_
               clear n0_ n1_ n2_
               have n0_ := Aside0.mk (blk_drew BK228.out)
               have n1_ := Aside0.mk (blk_drew BK232.out)
               have n2_ := Aside0.mk (below_drew1 HB.out)
               clear BK228
               clear BK232
               clear HB
               have BK228 := n0_
               have BK232 := n1_
               have HB := n2_
               clear n0_ n1_ n2_
               refine start_ (n := 38) (S := fun w' => w'.cell? ⟨gb232, 0, none⟩ = some (.int .i64 ((rd_T112 l0_2 x53_3).f0)) ∧ w'.cell? ⟨gb232, 1, none⟩ = some (.int .i64 ((rd_T112 l0_2 x53_3).f1))) (ds := []) (bz 38 0) (by kernel_rfl) rfl rfl ⟨(blk_cell BK232.out 0).trans rfl, (blk_cell BK232.out 1).trans rfl⟩ (fun hHeld => ?_); refine with_tabW impl_WorkValid.tab12 impl_WorkValid.bits12 (fun HT_ HW_ => ?_)
               generalize w44.drew = w45 at BK228 BK232 HB hHeld ⊢
               refine pure_ (i := 0) (N := some 58) (v := ?_) (a' := ?_) (bz 38 1) rfl rfl (any_of HT_.out (by kernel_rfl)) (fun _ _ _ h => h) (Or.inl ⟨by rfl, ?_⟩) ?_ ?_
               rotate_left
               ·intro w'
                go_simp
                with_reducible rfl
               rotate_left
               ·simp only [Act.put, List.setIfInBounds_toArray, List.set_cons_zero, List.set_cons_succ, i64_w, i32_w]
                rfl
               refine take_ (i := 1) (N := some 59) (v := ?_) (a' := ?_) (bz 38 3) rfl rfl (take_ofW HT_.out HW_.out (by kernel_rfl)) (fun _ _ _ h => h) (Or.inl ⟨by rfl, ?_⟩) hHeld ?_ ?_
               rotate_left
               ·rintro w' ⟨s0, s1⟩
                go_simp
                with_reducible rfl
               rotate_left
               ·simp only [Act.put, List.setIfInBounds_toArray, List.set_cons_zero, List.set_cons_succ, i64_w, i32_w]
                rfl
               refine pure_ (i := 2) (N := some 60) (v := ?_) (a' := ?_) (bz 38 7) rfl rfl (any_of HT_.out (by kernel_rfl)) (fun _ _ _ h => h) (Or.inl ⟨by rfl, ?_⟩) ?_ ?_
               rotate_left
               ·intro w'
                go_simp
                with_reducible rfl
               rotate_left
               ·simp only [Act.put, List.setIfInBounds_toArray, List.set_cons_zero, List.set_cons_succ, i64_w, i32_w]
                rfl
               refine pure_ (i := 3) (N := some 61) (v := ?_) (a' := ?_) (bz 38 15) rfl rfl (any_of HT_.out (by kernel_rfl)) (fun _ _ _ h => h) (Or.inl ⟨by rfl, ?_⟩) ?_ ?_
               rotate_left
               ·intro w'
                go_simp
                with_reducible rfl
               rotate_left
               ·simp only [Act.put, List.setIfInBounds_toArray, List.set_cons_zero, List.set_cons_succ, i64_w, i32_w]
                rfl
               refine pure_ (i := 4) (N := some 62) (v := ?_) (a' := ?_) (bz 38 31) rfl rfl (any_of HT_.out (by kernel_rfl)) (fun _ _ _ h => h) (Or.inl ⟨by rfl, ?_⟩) ?_ ?_
               rotate_left
               ·intro w'
                go_simp
                with_reducible rfl
               rotate_left
               ·simp only [Act.put, List.setIfInBounds_toArray, List.set_cons_zero, List.set_cons_succ, i64_w, i32_w]
                rfl
               refine take_ (i := 5) (N := some 63) (v := ?_) (a' := ?_) (bz 38 63) rfl rfl (take_ofW HT_.out HW_.out (by kernel_rfl)) (fun _ _ _ h => h) (Or.inl ⟨by rfl, ?_⟩) hHeld ?_ ?_
               rotate_left
               ·rintro w' ⟨s0, s1⟩
                go_simp
                with_reducible rfl
               rotate_left
               ·simp only [Act.put, List.setIfInBounds_toArray, List.set_cons_zero, List.set_cons_succ, i64_w, i32_w]
                rfl
               refine pure_ (i := 6) (N := some 64) (v := ?_) (a' := ?_) (bz 38 127) rfl rfl (any_of HT_.out (by kernel_rfl)) (fun _ _ _ h => h) (Or.inl ⟨by rfl, ?_⟩) ?_ ?_
               rotate_left
               ·intro w'
                go_simp
                with_reducible rfl
               rotate_left
               ·simp only [Act.put, List.setIfInBounds_toArray, List.set_cons_zero, List.set_cons_succ, i64_w, i32_w]
                rfl
               refine pure_ (i := 7) (N := some 65) (v := ?_) (a' := ?_) (bz 38 255) rfl rfl (any_of HT_.out (by kernel_rfl)) (fun _ _ _ h => h) (Or.inl ⟨by rfl, ?_⟩) ?_ ?_
               rotate_left
               ·intro w'
                go_simp
                with_reducible rfl
               rotate_left
               ·simp only [Act.put, List.setIfInBounds_toArray, List.set_cons_zero, List.set_cons_succ, i64_w, i32_w]
                rfl
               refine pure_ (i := 8) (N := some 66) (v := ?_) (a' := ?_) (bz 38 511) rfl rfl (any_of HT_.out (by kernel_rfl)) (fun _ _ _ h => h) (Or.inl ⟨by rfl, ?_⟩) ?_ ?_
               rotate_left
               ·intro w'
                go_simp
                with_reducible rfl
               rotate_left
               ·simp only [Act.put, List.setIfInBounds_toArray, List.set_cons_zero, List.set_cons_succ, i64_w, i32_w]
                rfl
               refine pure_ (i := 9) (N := some 67) (v := ?_) (a' := ?_) (bz 38 1023) rfl rfl (any_of HT_.out (by kernel_rfl)) (fun _ _ _ h => h) (Or.inl ⟨by rfl, ?_⟩) ?_ ?_
               rotate_left
               ·intro w'
                go_simp
                with_reducible rfl
               rotate_left
               ·simp only [Act.put, List.setIfInBounds_toArray, List.set_cons_zero, List.set_cons_succ, i64_w, i32_w]
                rfl
               refine take_ (i := 10) (N := some 68) (v := ?_) (a' := ?_) (bz 38 2047) rfl rfl (take_ofW HT_.out HW_.out (by kernel_rfl)) (fun _ _ _ h => h) (Or.inl ⟨by rfl, ?_⟩) hHeld ?_ ?_
               rotate_left
               ·rintro w' ⟨s0, s1⟩
                go_simp
                with_reducible rfl
               rotate_left
               ·simp only [Act.put, List.setIfInBounds_toArray, List.set_cons_zero, List.set_cons_succ, i64_w, i32_w]
                rfl
               refine pure_ (i := 11) (N := some 69) (v := ?_) (a' := ?_) (bz 38 4095) rfl rfl (any_of HT_.out (by kernel_rfl)) (fun _ _ _ h => h) (Or.inl ⟨by rfl, ?_⟩) ?_ ?_
               rotate_left
               ·intro w'
                go_simp
                with_reducible rfl
               rotate_left
               ·simp only [Act.put, List.setIfInBounds_toArray, List.set_cons_zero, List.set_cons_succ, i64_w, i32_w]
                rfl
               refine pure_ (i := 12) (N := some 70) (v := ?_) (a' := ?_) (bz 38 8191) rfl rfl (any_of HT_.out (by kernel_rfl)) (fun _ _ _ h => h) (Or.inl ⟨by rfl, ?_⟩) ?_ ?_
               rotate_left
               ·intro w'
                go_simp
                with_reducible rfl
               rotate_left
               ·simp only [Act.put, List.setIfInBounds_toArray, List.set_cons_zero, List.set_cons_succ, i64_w, i32_w]
                rfl
               refine pure_ (i := 13) (N := some 71) (v := ?_) (a' := ?_) (bz 38 16383) rfl rfl (any_of HT_.out (by kernel_rfl)) (fun _ _ _ h => h) (Or.inl ⟨by rfl, ?_⟩) ?_ ?_
               rotate_left
               ·intro w'
                go_simp
                with_reducible rfl
               rotate_left
               ·simp only [Act.put, List.setIfInBounds_toArray, List.set_cons_zero, List.set_cons_succ, i64_w, i32_w]
                rfl
               refine pure_ (i := 14) (N := some 72) (v := undef) (a' := ?_) (bz 38 32767) rfl rfl (any_of HT_.out (by kernel_rfl)) (fun _ _ _ h => h) (Or.inr ⟨by rfl, rfl⟩) ?_ ?_
               rotate_left
               ·simp only [Act.put, List.setIfInBounds_toArray, List.set_cons_zero, List.set_cons_succ, i64_w, i32_w]
                rfl
               refine pure_ (i := 15) (N := some 73) (v := undef) (a' := ?_) (bz 38 65535) rfl rfl (any_of HT_.out (by kernel_rfl)) (fun _ _ _ h => h) (Or.inr ⟨by rfl, rfl⟩) ?_ ?_
               rotate_left
               ·simp only [Act.put, List.setIfInBounds_toArray, List.set_cons_zero, List.set_cons_succ, i64_w, i32_w]
                rfl
               refine pure_ (i := 16) (N := some 74) (v := undef) (a' := ?_) (bz 38 131071) rfl rfl (any_of HT_.out (by kernel_rfl)) (fun _ _ _ h => h) (Or.inr ⟨by rfl, rfl⟩) ?_ ?_
               rotate_left
               ·simp only [Act.put, List.setIfInBounds_toArray, List.set_cons_zero, List.set_cons_succ, i64_w, i32_w]
                rfl
               refine pure_ (i := 17) (N := some 75) (v := undef) (a' := ?_) (bz 38 262143) rfl rfl (any_of HT_.out (by kernel_rfl)) (fun _ _ _ h => h) (Or.inr ⟨by rfl, rfl⟩) ?_ ?_
               rotate_left
               ·simp only [Act.put, List.setIfInBounds_toArray, List.set_cons_zero, List.set_cons_succ, i64_w, i32_w]
                rfl
               refine pure_ (i := 18) (N := some 76) (v := undef) (a' := ?_) (bz 38 524287) rfl rfl (any_of HT_.out (by kernel_rfl)) (fun _ _ _ h => h) (Or.inr ⟨by rfl, rfl⟩) ?_ ?_
               rotate_left
               ·simp only [Act.put, List.setIfInBounds_toArray, List.set_cons_zero, List.set_cons_succ, i64_w, i32_w]
                rfl
               refine pure_ (i := 19) (N := some 77) (v := undef) (a' := ?_) (bz 38 1048575) rfl rfl (any_of HT_.out (by kernel_rfl)) (fun _ _ _ h => h) (Or.inr ⟨by rfl, rfl⟩) ?_ ?_
               rotate_left
               ·simp only [Act.put, List.setIfInBounds_toArray, List.set_cons_zero, List.set_cons_succ, i64_w, i32_w]
                rfl
               refine pure_ (i := 20) (N := some 78) (v := ?_) (a' := ?_) (bz 38 2097151) rfl rfl (any_of HT_.out (by kernel_rfl)) (fun _ _ _ h => h) (Or.inl ⟨by rfl, ?_⟩) ?_ ?_
               rotate_left
               ·intro w'
                go_simp
                with_reducible rfl
               rotate_left
               ·simp only [Act.put, List.setIfInBounds_toArray, List.set_cons_zero, List.set_cons_succ, i64_w, i32_w]
                rfl
               refine pure_ (i := 21) (N := some 79) (v := ?_) (a' := ?_) (bz 38 4194303) rfl rfl (any_of HT_.out (by kernel_rfl)) (fun _ _ _ h => h) (Or.inl ⟨by rfl, ?_⟩) ?_ ?_
               rotate_left
               ·intro w'
                go_simp
                with_reducible rfl
               rotate_left
               ·simp only [Act.put, List.setIfInBounds_toArray, List.set_cons_zero, List.set_cons_succ, i64_w, i32_w]
                rfl
               refine pure_ (i := 22) (N := some 80) (v := undef) (a' := ?_) (bz 38 8388607) rfl rfl (any_of HT_.out (by kernel_rfl)) (fun _ _ _ h => h) (Or.inr ⟨by rfl, rfl⟩) ?_ ?_
               rotate_left
               ·simp only [Act.put, List.setIfInBounds_toArray, List.set_cons_zero, List.set_cons_succ, i64_w, i32_w]
                rfl
               refine pure_ (i := 23) (N := some 81) (v := undef) (a' := ?_) (bz 38 16777215) rfl rfl (any_of HT_.out (by kernel_rfl)) (fun _ _ _ h => h) (Or.inr ⟨by rfl, rfl⟩) ?_ ?_
               rotate_left
               ·simp only [Act.put, List.setIfInBounds_toArray, List.set_cons_zero, List.set_cons_succ, i64_w, i32_w]
                rfl
               refine pure_ (i := 24) (N := some 82) (v := undef) (a' := ?_) (bz 38 33554431) rfl rfl (any_of HT_.out (by kernel_rfl)) (fun _ _ _ h => h) (Or.inr ⟨by rfl, rfl⟩) ?_ ?_
               rotate_left
               ·simp only [Act.put, List.setIfInBounds_toArray, List.set_cons_zero, List.set_cons_succ, i64_w, i32_w]
                rfl
               refine pure_ (i := 25) (N := some 83) (v := undef) (a' := ?_) (bz 38 67108863) rfl rfl (any_of HT_.out (by kernel_rfl)) (fun _ _ _ h => h) (Or.inr ⟨by rfl, rfl⟩) ?_ ?_
               rotate_left
               ·simp only [Act.put, List.setIfInBounds_toArray, List.set_cons_zero, List.set_cons_succ, i64_w, i32_w]
                rfl
               refine pure_ (i := 26) (N := some 84) (v := undef) (a' := ?_) (bz 38 134217727) rfl rfl (any_of HT_.out (by kernel_rfl)) (fun _ _ _ h => h) (Or.inr ⟨by rfl, rfl⟩) ?_ ?_
               rotate_left
               ·simp only [Act.put, List.setIfInBounds_toArray, List.set_cons_zero, List.set_cons_succ, i64_w, i32_w]
                rfl
               refine pure_ (i := 27) (N := some 85) (v := undef) (a' := ?_) (bz 38 268435455) rfl rfl (any_of HT_.out (by kernel_rfl)) (fun _ _ _ h => h) (Or.inr ⟨by rfl, rfl⟩) ?_ ?_
               rotate_left
               ·simp only [Act.put, List.setIfInBounds_toArray, List.set_cons_zero, List.set_cons_succ, i64_w, i32_w]
                rfl
               refine pure_ (i := 28) (N := some 86) (v := undef) (a' := ?_) (bz 38 536870911) rfl rfl (any_of HT_.out (by kernel_rfl)) (fun _ _ _ h => h) (Or.inr ⟨by rfl, rfl⟩) ?_ ?_
               rotate_left
               ·simp only [Act.put, List.setIfInBounds_toArray, List.set_cons_zero, List.set_cons_succ, i64_w, i32_w]
                rfl
               refine pure_ (i := 29) (N := some 87) (v := ?_) (a' := ?_) (bz 38 1073741823) rfl rfl (any_of HT_.out (by kernel_rfl)) (fun _ _ _ h => h) (Or.inl ⟨by rfl, ?_⟩) ?_ ?_
               rotate_left
               ·intro w'
                go_simp
                with_reducible rfl
               rotate_left
               ·simp only [Act.put, List.setIfInBounds_toArray, List.set_cons_zero, List.set_cons_succ, i64_w, i32_w]
                rfl
               refine pure_ (i := 30) (N := some 88) (v := ?_) (a' := ?_) (bz 38 2147483647) rfl rfl (any_of HT_.out (by kernel_rfl)) (fun _ _ _ h => h) (Or.inl ⟨by rfl, ?_⟩) ?_ ?_
               rotate_left
               ·intro w'
                go_simp
                with_reducible rfl
               rotate_left
               ·simp only [Act.put, List.setIfInBounds_toArray, List.set_cons_zero, List.set_cons_succ, i64_w, i32_w]
                rfl
               refine pure_ (i := 31) (N := some 89) (v := undef) (a' := ?_) (bz 38 4294967295) rfl rfl (any_of HT_.out (by kernel_rfl)) (fun _ _ _ h => h) (Or.inr ⟨by rfl, rfl⟩) ?_ ?_
               rotate_left
               ·simp only [Act.put, List.setIfInBounds_toArray, List.set_cons_zero, List.set_cons_succ, i64_w, i32_w]
                rfl
               refine pure_ (i := 32) (N := some 90) (v := undef) (a' := ?_) (bz 38 8589934591) rfl rfl (any_of HT_.out (by kernel_rfl)) (fun _ _ _ h => h) (Or.inr ⟨by rfl, rfl⟩) ?_ ?_
               rotate_left
               ·simp only [Act.put, List.setIfInBounds_toArray, List.set_cons_zero, List.set_cons_succ, i64_w, i32_w]
                rfl
               refine pure_ (i := 33) (N := some 91) (v := undef) (a' := ?_) (bz 38 17179869183) rfl rfl (any_of HT_.out (by kernel_rfl)) (fun _ _ _ h => h) (Or.inr ⟨by rfl, rfl⟩) ?_ ?_
               rotate_left
               ·simp only [Act.put, List.setIfInBounds_toArray, List.set_cons_zero, List.set_cons_succ, i64_w, i32_w]
                rfl
               refine pure_ (i := 34) (N := some 92) (v := undef) (a' := ?_) (bz 38 34359738367) rfl rfl (any_of HT_.out (by kernel_rfl)) (fun _ _ _ h => h) (Or.inr ⟨by rfl, rfl⟩) ?_ ?_
               rotate_left
               ·simp only [Act.put, List.setIfInBounds_toArray, List.set_cons_zero, List.set_cons_succ, i64_w, i32_w]
                rfl
               refine pure_ (i := 35) (N := some 93) (v := undef) (a' := ?_) (bz 38 68719476735) rfl rfl (any_of HT_.out (by kernel_rfl)) (fun _ _ _ h => h) (Or.inr ⟨by rfl, rfl⟩) ?_ ?_
               rotate_left
               ·simp only [Act.put, List.setIfInBounds_toArray, List.set_cons_zero, List.set_cons_succ, i64_w, i32_w]
                rfl
               refine pure_ (i := 36) (N := some 94) (v := undef) (a' := ?_) (bz 38 137438953471) rfl rfl (any_of HT_.out (by kernel_rfl)) (fun _ _ _ h => h) (Or.inr ⟨by rfl, rfl⟩) ?_ ?_
               rotate_left
               ·simp only [Act.put, List.setIfInBounds_toArray, List.set_cons_zero, List.set_cons_succ, i64_w, i32_w]
                rfl
               refine pure_ (i := 37) (N := some 95) (v := ?_) (a' := ?_) (bz 38 274877906943) rfl rfl (any_of HT_.out (by kernel_rfl)) (fun _ _ _ h => h) (Or.inl ⟨by rfl, ?_⟩) ?_ ?_
               rotate_left
               ·intro w'
                go_simp
                with_reducible rfl
               rotate_left
               ·simp only [Act.put, List.setIfInBounds_toArray, List.set_cons_zero, List.set_cons_succ, i64_w, i32_w]
                rfl
               refine done_ (done_of HT_.out (by kernel_rfl)) ?_
               try go_wp2
               go_ret
               exact ⟨by first | rfl | (simp [errW_none, errW_some] <;> rfl) | (simp [*, errW_none, errW_some] <;> rfl), bw⟩
              ·rw [if_neg c40] at H
               have c40b0 : decide (((rd_T112 l0_2 x53_3).f1) < 0) = false := decide_eq_false c40
               clear c40
               by_cases c46 : ((rd_T112 l0_2 x53_3).f1) ≥ (l0_0.length : Int)
               ·rw [if_pos c46] at H
                have c46b0 : decide ((l0_0.length : Int) ≤ ((rd_T112 l0_2 x53_3).f1)) = true := decide_eq_true c46
                clear c46
                obtain rfl := Option.some.inj H
                have p231 : 0 ≤ (x53_3 : Int) := of_decide_eq_true (by first | (with_reducible assumption) | assumption)
                have q231 : x53_3 < (l0_2.length : Int) := of_decide_eq_true (by first | (with_reducible assumption) | assumption)
                obtain ⟨ad231, e231, hx231_0, hx231_1⟩ := at_T112 HR0_2.out x53_3 p231 q231
                cases e231
                replace hx231_0 := (HB.out.cell (World.block_lt_of_cell? w _ hx231_0)).trans hx231_0
                replace hx231_1 := (HB.out.cell (World.block_lt_of_cell? w _ hx231_1)).trans hx231_1
                replace p231 := eq_true p231
                replace q231 := eq_true q231
                try go_wp2_with (first | ((with_reducible refine gate_dst (N := 5) rfl ?_); (try (refine gate_guard (by rfl) ?_; dsimp only)); refine box_event ?hg (N := 5) ?hd (cs := #[.int .i64 0, .int .i64 0]) (t := 112) ?hr ?_; (case hd => rfl); (case hg => rfl); (case hr => first | (go_simp; done) | (go_simp; rfl)); intro gb232 hg w47 hbox hb; have n0_ := bkB BK228 hb; have n1_ := Aside0.mk (below_step bw hb); have n2_ := Aside0.mk (hbox); have n3_ := Aside0.mk ((by rw [hg]; exact (below_size bw) : w.heap.size ≤ gb232)); have n4_ := Aside0.mk ((by rw [hg]; exact (below_size bw) : w.heap.size ≤ gb232)); have n5_ := Aside0.mk ((by rw [hg]; exact Nat.ne_of_lt (blk_lt (g := gb228) (o := .cells #[.slice A0_0 l0_0.length c0_0, .slice A0_1 l0_1.length c0_1, .slice (some ad231) l0_2.length c0_2] 73 (0, 0)) (bk BK228)) : gb228 ≠ gb232)); have n6_ := Aside0.mk ((by rw [hg]; exact Nat.ne_of_gt (blk_lt (g := gb228) (o := .cells #[.slice A0_0 l0_0.length c0_0, .slice A0_1 l0_1.length c0_1, .slice (some ad231) l0_2.length c0_2] 73 (0, 0)) (bk BK228)) : gb232 ≠ gb228)); clear BK228 HB; have BK228 := n0_; have HB := n1_; have BK232 := n2_; have GW232 := n3_; have GE232 := n4_; have NB228_232 := n5_; have NB232_228 := n6_; clear n0_ n1_ n2_ n3_ n4_ n5_ n6_; clear hb hbox hg; have hnb48 := NB232_228.out; have hnc48 := NB228_232.out; have hcz49_0 : w47.cell? ⟨gb232, 0, none⟩ = some (.int .i64 0) := (blk_cell BK232.out 0).trans rfl; have hcz49_1 : w47.cell? ⟨gb232, 1, none⟩ = some (.int .i64 0) := (blk_cell BK232.out 1).trans rfl; have hfz49_0 := blk_frozen BK232.out 0; have hfz49_1 := blk_frozen BK232.out 1))
                have n0_ : Aside0 (((w47.setCell ⟨gb232, 0, none⟩ (.int .i64 ((rd_T112 l0_2 x53_3).f0))).setCell ⟨gb232, 1, none⟩ (.int .i64 ((rd_T112 l0_2 x53_3).f1))).heap[gb228]? = some (.cells #[.slice A0_0 l0_0.length c0_0, .slice A0_1 l0_1.length c0_1, .slice (some ad231) l0_2.length c0_2] 73 (0, 0))) := ⟨by (with_reducible repeat (first | refine blk_drewN ?_ _ | refine blk_drew ?_ | refine blk_alloc ?_ _)); refine blk_far ?_ NB228_232.out _; (with_reducible repeat (first | refine blk_drewN ?_ _ | refine blk_drew ?_ | refine blk_alloc ?_ _)); refine blk_far ?_ NB228_232.out _; (with_reducible repeat (first | refine blk_drewN ?_ _ | refine blk_drew ?_ | refine blk_alloc ?_ _)); exact BK228.out⟩
                have n1_ : Aside0 (((w47.setCell ⟨gb232, 0, none⟩ (.int .i64 ((rd_T112 l0_2 x53_3).f0))).setCell ⟨gb232, 1, none⟩ (.int .i64 ((rd_T112 l0_2 x53_3).f1))).heap[gb232]? = some (.cells #[.int .i64 ((rd_T112 l0_2 x53_3).f0), .int .i64 ((rd_T112 l0_2 x53_3).f1)] 112 (0, 0))) := ⟨by (with_reducible repeat (first | refine blk_drewN ?_ _ | refine blk_drew ?_ | refine blk_alloc ?_ _)); refine blk_put (cs := #[.int .i64 ((rd_T112 l0_2 x53_3).f0), .int .i64 0]) ?_ 1 _ rfl; (with_reducible repeat (first | refine blk_drewN ?_ _ | refine blk_drew ?_ | refine blk_alloc ?_ _)); refine blk_put (cs := #[.int .i64 0, .int .i64 0]) ?_ 0 _ rfl; (with_reducible repeat (first | refine blk_drewN ?_ _ | refine blk_drew ?_ | refine blk_alloc ?_ _)); exact BK232.out⟩
                have n2_ : Aside0 (Below w.heap.size w ((w47.setCell ⟨gb232, 0, none⟩ (.int .i64 ((rd_T112 l0_2 x53_3).f0))).setCell ⟨gb232, 1, none⟩ (.int .i64 ((rd_T112 l0_2 x53_3).f1)))) := ⟨bw⟩
                (try clear BK228)
                (try clear BK232)
                (try clear HB)
                generalize ((w47.setCell ⟨gb232, 0, none⟩ (.int .i64 ((rd_T112 l0_2 x53_3).f0))).setCell ⟨gb232, 1, none⟩ (.int .i64 ((rd_T112 l0_2 x53_3).f1))) = w50 at n0_ n1_ n2_ ⊢
                have BK228 := n0_
                have BK232 := n1_
                have HB := n2_
                clear n0_ n1_ n2_
                have n0_ := Aside0.mk (blk_drew BK228.out)
                have n1_ := Aside0.mk (blk_drew BK232.out)
                have n2_ := Aside0.mk (below_drew1 HB.out)
                clear BK228
                clear BK232
                clear HB
                have BK228 := n0_
                have BK232 := n1_
                have HB := n2_
                clear n0_ n1_ n2_
                refine start_ (n := 38) (S := fun w' => w'.cell? ⟨gb232, 0, none⟩ = some (.int .i64 ((rd_T112 l0_2 x53_3).f0)) ∧ w'.cell? ⟨gb232, 1, none⟩ = some (.int .i64 ((rd_T112 l0_2 x53_3).f1)) ∧ w'.cell? ⟨gb228, 0, none⟩ = some (.slice A0_0 l0_0.length c0_0) ∧ w'.cell? ⟨gb228, 1, none⟩ = some (.slice A0_1 l0_1.length c0_1) ∧ w'.cell? ⟨gb228, 2, none⟩ = some (.slice (some ad231) l0_2.length c0_2)) (ds := []) (bz 38 0) (by kernel_rfl) rfl rfl ⟨(blk_cell BK232.out 0).trans rfl, (blk_cell BK232.out 1).trans rfl, (blk_cell BK228.out 0).trans rfl, (blk_cell BK228.out 1).trans rfl, (blk_cell BK228.out 2).trans rfl⟩ (fun hHeld => ?_); refine with_tabW impl_WorkValid.tab12 impl_WorkValid.bits12 (fun HT_ HW_ => ?_)
                generalize w50.drew = w51 at BK228 BK232 HB hHeld ⊢
                refine pure_ (i := 0) (N := some 58) (v := ?_) (a' := ?_) (bz 38 1) rfl rfl (any_of HT_.out (by kernel_rfl)) (fun _ _ _ h => h) (Or.inl ⟨by rfl, ?_⟩) ?_ ?_
                rotate_left
                ·intro w'
                 go_simp
                 with_reducible rfl
                rotate_left
                ·simp only [Act.put, List.setIfInBounds_toArray, List.set_cons_zero, List.set_cons_succ, i64_w, i32_w]
                 rfl
                refine take_ (i := 1) (N := some 59) (v := ?_) (a' := ?_) (bz 38 3) rfl rfl (take_ofW HT_.out HW_.out (by kernel_rfl)) (fun _ _ _ h => h) (Or.inl ⟨by rfl, ?_⟩) hHeld ?_ ?_
                rotate_left
                ·rintro w' ⟨s0, s1, s2, s3, s4⟩
                 go_simp
                 with_reducible rfl
                rotate_left
                ·simp only [Act.put, List.setIfInBounds_toArray, List.set_cons_zero, List.set_cons_succ, i64_w, i32_w]
                 rfl
                refine pure_ (i := 2) (N := some 60) (v := ?_) (a' := ?_) (bz 38 7) rfl rfl (any_of HT_.out (by kernel_rfl)) (fun _ _ _ h => h) (Or.inl ⟨by rfl, ?_⟩) ?_ ?_
                rotate_left
                ·intro w'
                 go_simp
                 with_reducible rfl
                rotate_left
                ·simp only [Act.put, List.setIfInBounds_toArray, List.set_cons_zero, List.set_cons_succ, i64_w, i32_w]
                 rfl
                refine pure_ (i := 3) (N := some 61) (v := ?_) (a' := ?_) (bz 38 15) rfl rfl (any_of HT_.out (by kernel_rfl)) (fun _ _ _ h => h) (Or.inl ⟨by rfl, ?_⟩) ?_ ?_
                rotate_left
                ·intro w'
                 go_simp
                 with_reducible rfl
                rotate_left
                ·simp only [Act.put, List.setIfInBounds_toArray, List.set_cons_zero, List.set_cons_succ, i64_w, i32_w]
                 rfl
                refine pure_ (i := 4) (N := some 62) (v := ?_) (a' := ?_) (bz 38 31) rfl rfl (any_of HT_.out (by kernel_rfl)) (fun _ _ _ h => h) (Or.inl ⟨by rfl, ?_⟩) ?_ ?_
                rotate_left
                ·intro w'
                 go_simp
                 with_reducible rfl
                rotate_left
                ·simp only [Act.put, List.setIfInBounds_toArray, List.set_cons_zero, List.set_cons_succ, i64_w, i32_w]
                 rfl
                refine take_ (i := 5) (N := some 63) (v := ?_) (a' := ?_) (bz 38 63) rfl rfl (take_ofW HT_.out HW_.out (by kernel_rfl)) (fun _ _ _ h => h) (Or.inl ⟨by rfl, ?_⟩) hHeld ?_ ?_
                rotate_left
                ·rintro w' ⟨s0, s1, s2, s3, s4⟩
                 go_simp
                 with_reducible rfl
                rotate_left
                ·simp only [Act.put, List.setIfInBounds_toArray, List.set_cons_zero, List.set_cons_succ, i64_w, i32_w]
                 rfl
                refine pure_ (i := 6) (N := some 64) (v := ?_) (a' := ?_) (bz 38 127) rfl rfl (any_of HT_.out (by kernel_rfl)) (fun _ _ _ h => h) (Or.inl ⟨by rfl, ?_⟩) ?_ ?_
                rotate_left
                ·intro w'
                 go_simp
                 with_reducible rfl
                rotate_left
                ·simp only [Act.put, List.setIfInBounds_toArray, List.set_cons_zero, List.set_cons_succ, i64_w, i32_w]
                 rfl
                refine pure_ (i := 7) (N := some 65) (v := ?_) (a' := ?_) (bz 38 255) rfl rfl (any_of HT_.out (by kernel_rfl)) (fun _ _ _ h => h) (Or.inl ⟨by rfl, ?_⟩) ?_ ?_
                rotate_left
                ·intro w'
                 go_simp
                 with_reducible rfl
                rotate_left
                ·simp only [Act.put, List.setIfInBounds_toArray, List.set_cons_zero, List.set_cons_succ, i64_w, i32_w]
                 rfl
                refine pure_ (i := 8) (N := some 66) (v := ?_) (a' := ?_) (bz 38 511) rfl rfl (any_of HT_.out (by kernel_rfl)) (fun _ _ _ h => h) (Or.inl ⟨by rfl, ?_⟩) ?_ ?_
                rotate_left
                ·intro w'
                 go_simp
                 with_reducible rfl
                rotate_left
                ·simp only [Act.put, List.setIfInBounds_toArray, List.set_cons_zero, List.set_cons_succ, i64_w, i32_w]
                 rfl
                refine pure_ (i := 9) (N := some 67) (v := ?_) (a' := ?_) (bz 38 1023) rfl rfl (any_of HT_.out (by kernel_rfl)) (fun _ _ _ h => h) (Or.inl ⟨by rfl, ?_⟩) ?_ ?_
                rotate_left
                ·intro w'
                 go_simp
                 with_reducible rfl
                rotate_left
                ·simp only [Act.put, List.setIfInBounds_toArray, List.set_cons_zero, List.set_cons_succ, i64_w, i32_w]
                 rfl
                refine take_ (i := 10) (N := some 68) (v := ?_) (a' := ?_) (bz 38 2047) rfl rfl (take_ofW HT_.out HW_.out (by kernel_rfl)) (fun _ _ _ h => h) (Or.inl ⟨by rfl, ?_⟩) hHeld ?_ ?_
                rotate_left
                ·rintro w' ⟨s0, s1, s2, s3, s4⟩
                 go_simp
                 with_reducible rfl
                rotate_left
                ·simp only [Act.put, List.setIfInBounds_toArray, List.set_cons_zero, List.set_cons_succ, i64_w, i32_w]
                 rfl
                refine pure_ (i := 11) (N := some 69) (v := ?_) (a' := ?_) (bz 38 4095) rfl rfl (any_of HT_.out (by kernel_rfl)) (fun _ _ _ h => h) (Or.inl ⟨by rfl, ?_⟩) ?_ ?_
                rotate_left
                ·intro w'
                 go_simp
                 with_reducible rfl
                rotate_left
                ·simp only [Act.put, List.setIfInBounds_toArray, List.set_cons_zero, List.set_cons_succ, i64_w, i32_w]
                 rfl
                refine pure_ (i := 12) (N := some 70) (v := ?_) (a' := ?_) (bz 38 8191) rfl rfl (any_of HT_.out (by kernel_rfl)) (fun _ _ _ h => h) (Or.inl ⟨by rfl, ?_⟩) ?_ ?_
                rotate_left
                ·intro w'
                 go_simp
                 with_reducible rfl
                rotate_left
                ·simp only [Act.put, List.setIfInBounds_toArray, List.set_cons_zero, List.set_cons_succ, i64_w, i32_w]
                 rfl
                refine pure_ (i := 13) (N := some 71) (v := ?_) (a' := ?_) (bz 38 16383) rfl rfl (any_of HT_.out (by kernel_rfl)) (fun _ _ _ h => h) (Or.inl ⟨by rfl, ?_⟩) ?_ ?_
                rotate_left
                ·intro w'
                 go_simp
                 with_reducible rfl
                rotate_left
                ·simp only [Act.put, List.setIfInBounds_toArray, List.set_cons_zero, List.set_cons_succ, i64_w, i32_w]
                 rfl
                refine pure_ (i := 14) (N := some 72) (v := ?_) (a' := ?_) (bz 38 32767) rfl rfl (any_of HT_.out (by kernel_rfl)) (fun _ _ _ h => h) (Or.inl ⟨by rfl, ?_⟩) ?_ ?_
                rotate_left
                ·intro w'
                 go_simp
                 with_reducible rfl
                rotate_left
                ·simp only [Act.put, List.setIfInBounds_toArray, List.set_cons_zero, List.set_cons_succ, i64_w, i32_w]
                 rfl
                refine pure_ (i := 16) (N := some 74) (v := ?_) (a' := ?_) (bz 38 98303) rfl rfl (any_of HT_.out (by kernel_rfl)) (fun _ _ _ h => h) (Or.inl ⟨by rfl, ?_⟩) ?_ ?_
                rotate_left
                ·intro w'
                 go_simp
                 with_reducible rfl
                rotate_left
                ·simp only [Act.put, List.setIfInBounds_toArray, List.set_cons_zero, List.set_cons_succ, i64_w, i32_w]
                 rfl
                refine take_ (i := 15) (N := some 73) (v := ?_) (a' := ?_) (bz 38 131071) rfl rfl (take_ofW HT_.out HW_.out (by kernel_rfl)) (fun _ _ _ h => h) (Or.inl ⟨by rfl, ?_⟩) hHeld ?_ ?_
                rotate_left
                ·rintro w' ⟨s0, s1, s2, s3, s4⟩
                 go_simp
                 with_reducible rfl
                rotate_left
                ·simp only [Act.put, List.setIfInBounds_toArray, List.set_cons_zero, List.set_cons_succ, i64_w, i32_w]
                 rfl
                refine take_ (i := 17) (N := some 75) (v := ?_) (a' := ?_) (bz 38 262143) rfl rfl (take_ofW HT_.out HW_.out (by kernel_rfl)) (fun _ _ _ h => h) (Or.inl ⟨by rfl, ?_⟩) hHeld ?_ ?_
                rotate_left
                ·rintro w' ⟨s0, s1, s2, s3, s4⟩
                 go_simp
                 with_reducible rfl
                rotate_left
                ·simp only [Act.put, List.setIfInBounds_toArray, List.set_cons_zero, List.set_cons_succ, i64_w, i32_w]
                 rfl
                refine pure_ (i := 18) (N := some 76) (v := ?_) (a' := ?_) (bz 38 524287) rfl rfl (any_of HT_.out (by kernel_rfl)) (fun _ _ _ h => h) (Or.inl ⟨by rfl, ?_⟩) ?_ ?_
                rotate_left
                ·intro w'
                 go_simp
                 with_reducible rfl
                rotate_left
                ·simp only [Act.put, List.setIfInBounds_toArray, List.set_cons_zero, List.set_cons_succ, i64_w, i32_w]
                 rfl
                refine pure_ (i := 19) (N := some 77) (v := ?_) (a' := ?_) (bz 38 1048575) rfl rfl (any_of HT_.out (by kernel_rfl)) (fun _ _ _ h => h) (Or.inl ⟨by rfl, ?_⟩) ?_ ?_
                rotate_left
                ·intro w'
                 go_simp
                 with_reducible rfl
                rotate_left
                ·simp only [Act.put, List.setIfInBounds_toArray, List.set_cons_zero, List.set_cons_succ, i64_w, i32_w]
                 rfl
                refine pure_ (i := 20) (N := some 78) (v := ?_) (a' := ?_) (bz 38 2097151) rfl rfl (any_of HT_.out (by kernel_rfl)) (fun _ _ _ h => h) (Or.inl ⟨by rfl, ?_⟩) ?_ ?_
                rotate_left
                ·intro w'
                 go_simp
                 with_reducible rfl
                rotate_left
                ·simp only [Act.put, List.setIfInBounds_toArray, List.set_cons_zero, List.set_cons_succ, i64_w, i32_w]
                 rfl
                refine pure_ (i := 21) (N := some 79) (v := ?_) (a' := ?_) (bz 38 4194303) rfl rfl (any_of HT_.out (by kernel_rfl)) (fun _ _ _ h => h) (Or.inl ⟨by rfl, ?_⟩) ?_ ?_
                rotate_left
                ·intro w'
                 go_simp
                 with_reducible rfl
                rotate_left
                ·simp only [Act.put, List.setIfInBounds_toArray, List.set_cons_zero, List.set_cons_succ, i64_w, i32_w]
                 rfl
                refine pure_ (i := 22) (N := some 80) (v := undef) (a' := ?_) (bz 38 8388607) rfl rfl (any_of HT_.out (by kernel_rfl)) (fun _ _ _ h => h) (Or.inr ⟨by rfl, rfl⟩) ?_ ?_
                rotate_left
                ·simp only [Act.put, List.setIfInBounds_toArray, List.set_cons_zero, List.set_cons_succ, i64_w, i32_w]
                 rfl
                refine pure_ (i := 23) (N := some 81) (v := undef) (a' := ?_) (bz 38 16777215) rfl rfl (any_of HT_.out (by kernel_rfl)) (fun _ _ _ h => h) (Or.inr ⟨by rfl, rfl⟩) ?_ ?_
                rotate_left
                ·simp only [Act.put, List.setIfInBounds_toArray, List.set_cons_zero, List.set_cons_succ, i64_w, i32_w]
                 rfl
                refine pure_ (i := 24) (N := some 82) (v := undef) (a' := ?_) (bz 38 33554431) rfl rfl (any_of HT_.out (by kernel_rfl)) (fun _ _ _ h => h) (Or.inr ⟨by rfl, rfl⟩) ?_ ?_
                rotate_left
                ·simp only [Act.put, List.setIfInBounds_toArray, List.set_cons_zero, List.set_cons_succ, i64_w, i32_w]
                 rfl
                refine pure_ (i := 25) (N := some 83) (v := undef) (a' := ?_) (bz 38 67108863) rfl rfl (any_of HT_.out (by kernel_rfl)) (fun _ _ _ h => h) (Or.inr ⟨by rfl, rfl⟩) ?_ ?_
                rotate_left
                ·simp only [Act.put, List.setIfInBounds_toArray, List.set_cons_zero, List.set_cons_succ, i64_w, i32_w]
                 rfl
                refine pure_ (i := 26) (N := some 84) (v := undef) (a' := ?_) (bz 38 134217727) rfl rfl (any_of HT_.out (by kernel_rfl)) (fun _ _ _ h => h) (Or.inr ⟨by rfl, rfl⟩) ?_ ?_
                rotate_left
                ·simp only [Act.put, List.setIfInBounds_toArray, List.set_cons_zero, List.set_cons_succ, i64_w, i32_w]
                 rfl
                refine pure_ (i := 27) (N := some 85) (v := undef) (a' := ?_) (bz 38 268435455) rfl rfl (any_of HT_.out (by kernel_rfl)) (fun _ _ _ h => h) (Or.inr ⟨by rfl, rfl⟩) ?_ ?_
                rotate_left
                ·simp only [Act.put, List.setIfInBounds_toArray, List.set_cons_zero, List.set_cons_succ, i64_w, i32_w]
                 rfl
                refine pure_ (i := 28) (N := some 86) (v := undef) (a' := ?_) (bz 38 536870911) rfl rfl (any_of HT_.out (by kernel_rfl)) (fun _ _ _ h => h) (Or.inr ⟨by rfl, rfl⟩) ?_ ?_
                rotate_left
                ·simp only [Act.put, List.setIfInBounds_toArray, List.set_cons_zero, List.set_cons_succ, i64_w, i32_w]
                 rfl
                refine pure_ (i := 29) (N := some 87) (v := ?_) (a' := ?_) (bz 38 1073741823) rfl rfl (any_of HT_.out (by kernel_rfl)) (fun _ _ _ h => h) (Or.inl ⟨by rfl, ?_⟩) ?_ ?_
                rotate_left
                ·intro w'
                 go_simp
                 with_reducible rfl
                rotate_left
                ·simp only [Act.put, List.setIfInBounds_toArray, List.set_cons_zero, List.set_cons_succ, i64_w, i32_w]
                 rfl
                refine pure_ (i := 30) (N := some 88) (v := ?_) (a' := ?_) (bz 38 2147483647) rfl rfl (any_of HT_.out (by kernel_rfl)) (fun _ _ _ h => h) (Or.inl ⟨by rfl, ?_⟩) ?_ ?_
                rotate_left
                ·intro w'
                 go_simp
                 with_reducible rfl
                rotate_left
                ·simp only [Act.put, List.setIfInBounds_toArray, List.set_cons_zero, List.set_cons_succ, i64_w, i32_w]
                 rfl
                refine pure_ (i := 31) (N := some 89) (v := undef) (a' := ?_) (bz 38 4294967295) rfl rfl (any_of HT_.out (by kernel_rfl)) (fun _ _ _ h => h) (Or.inr ⟨by rfl, rfl⟩) ?_ ?_
                rotate_left
                ·simp only [Act.put, List.setIfInBounds_toArray, List.set_cons_zero, List.set_cons_succ, i64_w, i32_w]
                 rfl
                refine pure_ (i := 32) (N := some 90) (v := undef) (a' := ?_) (bz 38 8589934591) rfl rfl (any_of HT_.out (by kernel_rfl)) (fun _ _ _ h => h) (Or.inr ⟨by rfl, rfl⟩) ?_ ?_
                rotate_left
                ·simp only [Act.put, List.setIfInBounds_toArray, List.set_cons_zero, List.set_cons_succ, i64_w, i32_w]
                 rfl
                refine pure_ (i := 33) (N := some 91) (v := undef) (a' := ?_) (bz 38 17179869183) rfl rfl (any_of HT_.out (by kernel_rfl)) (fun _ _ _ h => h) (Or.inr ⟨by rfl, rfl⟩) ?_ ?_
                rotate_left
                ·simp only [Act.put, List.setIfInBounds_toArray, List.set_cons_zero, List.set_cons_succ, i64_w, i32_w]
                 rfl
                refine pure_ (i := 34) (N := some 92) (v := undef) (a' := ?_) (bz 38 34359738367) rfl rfl (any_of HT_.out (by kernel_rfl)) (fun _ _ _ h => h) (Or.inr ⟨by rfl, rfl⟩) ?_ ?_
                rotate_left
                ·simp only [Act.put, List.setIfInBounds_toArray, List.set_cons_zero, List.set_cons_succ, i64_w, i32_w]
                 rfl
                refine pure_ (i := 35) (N := some 93) (v := undef) (a' := ?_) (bz 38 68719476735) rfl rfl (any_of HT_.out (by kernel_rfl)) (fun _ _ _ h => h) (Or.inr ⟨by rfl, rfl⟩) ?_ ?_
                rotate_left
                ·simp only [Act.put, List.setIfInBounds_toArray, List.set_cons_zero, List.set_cons_succ, i64_w, i32_w]
                 rfl
                refine pure_ (i := 36) (N := some 94) (v := undef) (a' := ?_) (bz 38 137438953471) rfl rfl (any_of HT_.out (by kernel_rfl)) (fun _ _ _ h => h) (Or.inr ⟨by rfl, rfl⟩) ?_ ?_
                rotate_left
                ·simp only [Act.put, List.setIfInBounds_toArray, List.set_cons_zero, List.set_cons_succ, i64_w, i32_w]
                 rfl
                refine pure_ (i := 37) (N := some 95) (v := ?_) (a' := ?_) (bz 38 274877906943) rfl rfl (any_of HT_.out (by kernel_rfl)) (fun _ _ _ h => h) (Or.inl ⟨by rfl, ?_⟩) ?_ ?_
                rotate_left
                ·intro w'
                 go_simp
                 with_reducible rfl
                rotate_left
                ·simp only [Act.put, List.setIfInBounds_toArray, List.set_cons_zero, List.set_cons_succ, i64_w, i32_w]
                 rfl
                refine done_ (done_of HT_.out (by kernel_rfl)) ?_
                try go_wp2
                go_ret
                exact ⟨by first | rfl | (simp [errW_none, errW_some] <;> rfl) | (simp [*, errW_none, errW_some] <;> rfl), bw⟩
               ·rw [if_neg c46] at H
                have c46b0 : decide ((l0_0.length : Int) ≤ ((rd_T112 l0_2 x53_3).f1)) = false := decide_eq_false c46
                clear c46
                by_cases c52 : 0 ≤ ((rd_T112 l0_2 x53_3).f1)
                ·rw [if_pos c52] at H
                 have c52b0 : decide (0 ≤ ((rd_T112 l0_2 x53_3).f1)) = true := decide_eq_true c52
                 clear c52
                 by_cases c53 : ((rd_T112 l0_2 x53_3).f1) < (l0_1.length : Int)
                 ·rw [if_pos c53] at H
                  have c53b0 : decide (((rd_T112 l0_2 x53_3).f1) < (l0_1.length : Int)) = true := decide_eq_true c53
                  clear c53
                  obtain ⟨bq54, hbq54⟩ : ∃ b_ : Bool, b_ = (rdOf false l0_1 ((rd_T112 l0_2 x53_3).f1)) := ⟨_, rfl⟩
                  replace H : (if (bq54 = true) then (if x53_3 ≤ (l0_2.length : Int) then ((impl_Permit_80.f k3 (l0_2.take (x53_3 : Int).toNat) ((rd_T112 l0_2 x53_3).f0) ((rd_T112 l0_2 x53_3).f1)).bind fun t238 => (if t238 = true then (some false) else (impl_WorkValid.l1 k3 l0_2 (l0_2.length : Int) (wrap64 (x53_3 + 1)) l0_0 l0_1 l0_2))) else (none)) else (some false)) = some r := by rw [← hbq54] at H; exact H
                  have Nbq54 := Aside0.mk hbq54
                  clear hbq54
                  by_cases c55 : (bq54 = true)
                  ·subst c55
                   have H1 : (if x53_3 ≤ (l0_2.length : Int) then ((impl_Permit_80.f k3 (l0_2.take (x53_3 : Int).toNat) ((rd_T112 l0_2 x53_3).f0) ((rd_T112 l0_2 x53_3).f1)).bind fun t238 => (if t238 = true then (some false) else (impl_WorkValid.l1 k3 l0_2 (l0_2.length : Int) (wrap64 (x53_3 + 1)) l0_0 l0_1 l0_2))) else (none)) = some r := by rw [if_pos rfl] at H; exact H
                   clear H
                   have H := H1
                   clear H1
                   have c56b0 := eq_true (of_decide_eq_true (by first | (with_reducible assumption) | assumption) : 0 ≤ x53_3)
                   by_cases c57 : x53_3 ≤ (l0_2.length : Int)
                   ·rw [if_pos c57] at H
                    have c57b0 := eq_true c57
                    have c57b1 : decide (x53_3 ≤ (l0_2.length : Int)) = true := decide_eq_true c57
                    clear c57
                    obtain ⟨y234, hy234⟩ : ∃ y_ : List (S112), y_ = (l0_2.take (x53_3 : Int).toNat) := ⟨_, rfl⟩
                    replace H : ((impl_Permit_80.f k3 y234 ((rd_T112 l0_2 x53_3).f0) ((rd_T112 l0_2 x53_3).f1)).bind fun t238 => (if t238 = true then (some false) else (impl_WorkValid.l1 k3 l0_2 (l0_2.length : Int) (wrap64 (x53_3 + 1)) l0_0 l0_1 l0_2))) = some r := by first | (rw [hy234]; with_reducible exact H) | (have H2_ := (Option.bind_some _ _).symm.trans H; rw [hy234]; with_reducible exact H2_) | (have H2_ := (Option.bind_some _ _).symm.trans H; with_reducible exact H2_) | with_reducible exact H | (rw [hy234]; exact H) | exact H
                    have Ny234 := Aside0.mk hy234
                    clear hy234
                    replace H := Option.bind_eq_some_iff.mp H
                    obtain ⟨t238, A580, H⟩ := H
                    replace H : (if t238 = true then (some false) else (impl_WorkValid.l1 k3 l0_2 (l0_2.length : Int) (wrap64 (x53_3 + 1)) l0_0 l0_1 l0_2)) = some r := H
                    have A58 := Aside0.mk A580
                    clear A580
                    by_cases c59 : t238 = true
                    ·subst c59
                     have H1 : (some false) = some r := by rw [if_pos rfl] at H; exact H
                     clear H
                     have H := H1
                     clear H1
                     obtain rfl := Option.some.inj H
                     have p231 : 0 ≤ (x53_3 : Int) := of_decide_eq_true (by first | (with_reducible assumption) | assumption)
                     have q231 : x53_3 < (l0_2.length : Int) := of_decide_eq_true (by first | (with_reducible assumption) | assumption)
                     obtain ⟨ad231, e231, hx231_0, hx231_1⟩ := at_T112 HR0_2.out x53_3 p231 q231
                     cases e231
                     replace hx231_0 := (HB.out.cell (World.block_lt_of_cell? w _ hx231_0)).trans hx231_0
                     replace hx231_1 := (HB.out.cell (World.block_lt_of_cell? w _ hx231_1)).trans hx231_1
                     replace p231 := eq_true p231
                     replace q231 := eq_true q231
                     try go_wp2_with (first | ((with_reducible refine gate_dst (N := 5) rfl ?_); (try (refine gate_guard (by rfl) ?_; dsimp only)); refine box_event ?hg (N := 5) ?hd (cs := #[.int .i64 0, .int .i64 0]) (t := 112) ?hr ?_; (case hd => rfl); (case hg => rfl); (case hr => first | (go_simp; done) | (go_simp; rfl)); intro gb232 hg w60 hbox hb; have n0_ := bkB BK228 hb; have n1_ := Aside0.mk (below_step bw hb); have n2_ := Aside0.mk (hbox); have n3_ := Aside0.mk ((by rw [hg]; exact (below_size bw) : w.heap.size ≤ gb232)); have n4_ := Aside0.mk ((by rw [hg]; exact (below_size bw) : w.heap.size ≤ gb232)); have n5_ := Aside0.mk ((by rw [hg]; exact Nat.ne_of_lt (blk_lt (g := gb228) (o := .cells #[.slice A0_0 l0_0.length c0_0, .slice A0_1 l0_1.length c0_1, .slice (some ad231) l0_2.length c0_2] 73 (0, 0)) (bk BK228)) : gb228 ≠ gb232)); have n6_ := Aside0.mk ((by rw [hg]; exact Nat.ne_of_gt (blk_lt (g := gb228) (o := .cells #[.slice A0_0 l0_0.length c0_0, .slice A0_1 l0_1.length c0_1, .slice (some ad231) l0_2.length c0_2] 73 (0, 0)) (bk BK228)) : gb232 ≠ gb228)); clear BK228 HB; have BK228 := n0_; have HB := n1_; have BK232 := n2_; have GW232 := n3_; have GE232 := n4_; have NB228_232 := n5_; have NB232_228 := n6_; clear n0_ n1_ n2_ n3_ n4_ n5_ n6_; clear hb hbox hg; have hnb61 := NB232_228.out; have hnc61 := NB228_232.out; have hcz62_0 : w60.cell? ⟨gb232, 0, none⟩ = some (.int .i64 0) := (blk_cell BK232.out 0).trans rfl; have hcz62_1 : w60.cell? ⟨gb232, 1, none⟩ = some (.int .i64 0) := (blk_cell BK232.out 1).trans rfl; have hfz62_0 := blk_frozen BK232.out 0; have hfz62_1 := blk_frozen BK232.out 1))
                     have n0_ : Aside0 (((w60.setCell ⟨gb232, 0, none⟩ (.int .i64 ((rd_T112 l0_2 x53_3).f0))).setCell ⟨gb232, 1, none⟩ (.int .i64 ((rd_T112 l0_2 x53_3).f1))).heap[gb228]? = some (.cells #[.slice A0_0 l0_0.length c0_0, .slice A0_1 l0_1.length c0_1, .slice (some ad231) l0_2.length c0_2] 73 (0, 0))) := ⟨by (with_reducible repeat (first | refine blk_drewN ?_ _ | refine blk_drew ?_ | refine blk_alloc ?_ _)); refine blk_far ?_ NB228_232.out _; (with_reducible repeat (first | refine blk_drewN ?_ _ | refine blk_drew ?_ | refine blk_alloc ?_ _)); refine blk_far ?_ NB228_232.out _; (with_reducible repeat (first | refine blk_drewN ?_ _ | refine blk_drew ?_ | refine blk_alloc ?_ _)); exact BK228.out⟩
                     have n1_ : Aside0 (((w60.setCell ⟨gb232, 0, none⟩ (.int .i64 ((rd_T112 l0_2 x53_3).f0))).setCell ⟨gb232, 1, none⟩ (.int .i64 ((rd_T112 l0_2 x53_3).f1))).heap[gb232]? = some (.cells #[.int .i64 ((rd_T112 l0_2 x53_3).f0), .int .i64 ((rd_T112 l0_2 x53_3).f1)] 112 (0, 0))) := ⟨by (with_reducible repeat (first | refine blk_drewN ?_ _ | refine blk_drew ?_ | refine blk_alloc ?_ _)); refine blk_put (cs := #[.int .i64 ((rd_T112 l0_2 x53_3).f0), .int .i64 0]) ?_ 1 _ rfl; (with_reducible repeat (first | refine blk_drewN ?_ _ | refine blk_drew ?_ | refine blk_alloc ?_ _)); refine blk_put (cs := #[.int .i64 0, .int .i64 0]) ?_ 0 _ rfl; (with_reducible repeat (first | refine blk_drewN ?_ _ | refine blk_drew ?_ | refine blk_alloc ?_ _)); exact BK232.out⟩
                     have n2_ : Aside0 (Below w.heap.size w ((w60.setCell ⟨gb232, 0, none⟩ (.int .i64 ((rd_T112 l0_2 x53_3).f0))).setCell ⟨gb232, 1, none⟩ (.int .i64 ((rd_T112 l0_2 x53_3).f1)))) := ⟨bw⟩
                     (try clear BK228)
                     (try clear BK232)
                     (try clear HB)
                     generalize ((w60.setCell ⟨gb232, 0, none⟩ (.int .i64 ((rd_T112 l0_2 x53_3).f0))).setCell ⟨gb232, 1, none⟩ (.int .i64 ((rd_T112 l0_2 x53_3).f1))) = w63 at n0_ n1_ n2_ ⊢
                     have BK228 := n0_
                     have BK232 := n1_
                     have HB := n2_
                     clear n0_ n1_ n2_
                     have n0_ := Aside0.mk (blk_drew BK228.out)
                     have n1_ := Aside0.mk (blk_drew BK232.out)
                     have n2_ := Aside0.mk (below_drew1 HB.out)
                     clear BK228
                     clear BK232
                     clear HB
                     have BK228 := n0_
                     have BK232 := n1_
                     have HB := n2_
                     clear n0_ n1_ n2_
                     have p233 : 0 ≤ (((rd_T112 l0_2 x53_3).f1) : Int) := of_decide_eq_true (by first | (with_reducible assumption) | assumption)
                     have q233 : ((rd_T112 l0_2 x53_3).f1) < (l0_1.length : Int) := of_decide_eq_true (by first | (with_reducible assumption) | assumption)
                     obtain ⟨ad233, e233, hx233_0⟩ := Kd.at_bool HR0_1.out ((rd_T112 l0_2 x53_3).f1) p233 q233
                     have hw233_0 := hx233_0
                     (try rw [← Nbq54.out] at hx233_0)
                     (try rw [← Nbq54.out] at hw233_0)
                     cases e233
                     replace hx233_0 := (HB.out.cell (World.block_lt_of_cell? w _ hx233_0)).trans hx233_0
                     replace p233 := eq_true p233
                     replace q233 := eq_true q233
                     have q65 : (x53_3 : Int) ≤ ((l0_2.length : Int) : Int) := of_decide_eq_true (by first | (with_reducible assumption) | assumption)
                     obtain ⟨i065, hi065, _, hsz65, _⟩ := info_parts info112
                     have hroom65 : l0_2.length ≤ c0_2 := HC0_2.out
                     have hC65 : Kd.C k112 _ (some ad231) l0_2.length l0_2 := HR0_2.out
                     have hcut65 := cut_to (P := Try.prog) 71 112 .i64 Try.underlying71 hi065 (some ad231) l0_2.length c0_2 x53_3 (of_decide_eq_true (by first | (with_reducible assumption) | assumption)) q65 hroom65
                     have hr65 := Kd.C_take (m := (x53_3 : Int).toNat) hC65 (by omega)
                     have hy65 : y234.length = (x53_3 : Int).toNat := (by rw [Ny234.out, List.length_take]; omega)
                     rw [← Ny234.out] at hr65
                     rw [← hy65] at hcut65
                     have HR237 := Aside0.mk hr65
                     have HC237 := Aside0.mk (show y234.length ≤ c0_2 from by omega)
                     clear hr65 hC65 hroom65 hi065 hsz65
                     have KY65 := Aside0.mk hy65
                     clear hy65
                     replace q65 := eq_true q65
                     refine start_ (n := 38) (S := fun w' => w'.cell? ⟨gb232, 0, none⟩ = some (.int .i64 ((rd_T112 l0_2 x53_3).f0)) ∧ w'.cell? ⟨gb232, 1, none⟩ = some (.int .i64 ((rd_T112 l0_2 x53_3).f1)) ∧ w'.cell? ⟨gb228, 0, none⟩ = some (.slice A0_0 l0_0.length c0_0) ∧ w'.cell? ⟨gb228, 1, none⟩ = some (.slice (some ad233) l0_1.length c0_1) ∧ w'.cell? ⟨gb228, 2, none⟩ = some (.slice (some ad231) l0_2.length c0_2) ∧ w'.cell? (ad233.add (((rd_T112 l0_2 x53_3).f1)).toNat) = some (.bool true)) (ds := []) (bz 38 0) (by kernel_rfl) rfl rfl ⟨(blk_cell BK232.out 0).trans rfl, (blk_cell BK232.out 1).trans rfl, (blk_cell BK228.out 0).trans rfl, (blk_cell BK228.out 1).trans rfl, (blk_cell BK228.out 2).trans rfl, ((HB.out.cell (World.block_lt_of_cell? w _ hw233_0)).trans hw233_0)⟩ (fun hHeld => ?_); refine with_tabW impl_WorkValid.tab12 impl_WorkValid.bits12 (fun HT_ HW_ => ?_)
                     generalize w63.drew = w64 at BK228 BK232 HB HR237 hx233_0 hHeld ⊢
                     refine pure_ (i := 0) (N := some 58) (v := ?_) (a' := ?_) (bz 38 1) rfl rfl (any_of HT_.out (by kernel_rfl)) (fun _ _ _ h => h) (Or.inl ⟨by rfl, ?_⟩) ?_ ?_
                     rotate_left
                     ·intro w'
                      go_simp
                      with_reducible rfl
                     rotate_left
                     ·simp only [Act.put, List.setIfInBounds_toArray, List.set_cons_zero, List.set_cons_succ, i64_w, i32_w]
                      rfl
                     refine take_ (i := 1) (N := some 59) (v := ?_) (a' := ?_) (bz 38 3) rfl rfl (take_ofW HT_.out HW_.out (by kernel_rfl)) (fun _ _ _ h => h) (Or.inl ⟨by rfl, ?_⟩) hHeld ?_ ?_
                     rotate_left
                     ·rintro w' ⟨s0, s1, s2, s3, s4, s5⟩
                      go_simp
                      with_reducible rfl
                     rotate_left
                     ·simp only [Act.put, List.setIfInBounds_toArray, List.set_cons_zero, List.set_cons_succ, i64_w, i32_w]
                      rfl
                     refine pure_ (i := 2) (N := some 60) (v := ?_) (a' := ?_) (bz 38 7) rfl rfl (any_of HT_.out (by kernel_rfl)) (fun _ _ _ h => h) (Or.inl ⟨by rfl, ?_⟩) ?_ ?_
                     rotate_left
                     ·intro w'
                      go_simp
                      with_reducible rfl
                     rotate_left
                     ·simp only [Act.put, List.setIfInBounds_toArray, List.set_cons_zero, List.set_cons_succ, i64_w, i32_w]
                      rfl
                     refine pure_ (i := 3) (N := some 61) (v := ?_) (a' := ?_) (bz 38 15) rfl rfl (any_of HT_.out (by kernel_rfl)) (fun _ _ _ h => h) (Or.inl ⟨by rfl, ?_⟩) ?_ ?_
                     rotate_left
                     ·intro w'
                      go_simp
                      with_reducible rfl
                     rotate_left
                     ·simp only [Act.put, List.setIfInBounds_toArray, List.set_cons_zero, List.set_cons_succ, i64_w, i32_w]
                      rfl
                     refine pure_ (i := 4) (N := some 62) (v := ?_) (a' := ?_) (bz 38 31) rfl rfl (any_of HT_.out (by kernel_rfl)) (fun _ _ _ h => h) (Or.inl ⟨by rfl, ?_⟩) ?_ ?_
                     rotate_left
                     ·intro w'
                      go_simp
                      with_reducible rfl
                     rotate_left
                     ·simp only [Act.put, List.setIfInBounds_toArray, List.set_cons_zero, List.set_cons_succ, i64_w, i32_w]
                      rfl
                     refine take_ (i := 5) (N := some 63) (v := ?_) (a' := ?_) (bz 38 63) rfl rfl (take_ofW HT_.out HW_.out (by kernel_rfl)) (fun _ _ _ h => h) (Or.inl ⟨by rfl, ?_⟩) hHeld ?_ ?_
                     rotate_left
                     ·rintro w' ⟨s0, s1, s2, s3, s4, s5⟩
                      go_simp
                      with_reducible rfl
                     rotate_left
                     ·simp only [Act.put, List.setIfInBounds_toArray, List.set_cons_zero, List.set_cons_succ, i64_w, i32_w]
                      rfl
                     refine pure_ (i := 6) (N := some 64) (v := ?_) (a' := ?_) (bz 38 127) rfl rfl (any_of HT_.out (by kernel_rfl)) (fun _ _ _ h => h) (Or.inl ⟨by rfl, ?_⟩) ?_ ?_
                     rotate_left
                     ·intro w'
                      go_simp
                      with_reducible rfl
                     rotate_left
                     ·simp only [Act.put, List.setIfInBounds_toArray, List.set_cons_zero, List.set_cons_succ, i64_w, i32_w]
                      rfl
                     refine pure_ (i := 7) (N := some 65) (v := ?_) (a' := ?_) (bz 38 255) rfl rfl (any_of HT_.out (by kernel_rfl)) (fun _ _ _ h => h) (Or.inl ⟨by rfl, ?_⟩) ?_ ?_
                     rotate_left
                     ·intro w'
                      go_simp
                      with_reducible rfl
                     rotate_left
                     ·simp only [Act.put, List.setIfInBounds_toArray, List.set_cons_zero, List.set_cons_succ, i64_w, i32_w]
                      rfl
                     refine pure_ (i := 8) (N := some 66) (v := ?_) (a' := ?_) (bz 38 511) rfl rfl (any_of HT_.out (by kernel_rfl)) (fun _ _ _ h => h) (Or.inl ⟨by rfl, ?_⟩) ?_ ?_
                     rotate_left
                     ·intro w'
                      go_simp
                      with_reducible rfl
                     rotate_left
                     ·simp only [Act.put, List.setIfInBounds_toArray, List.set_cons_zero, List.set_cons_succ, i64_w, i32_w]
                      rfl
                     refine pure_ (i := 9) (N := some 67) (v := ?_) (a' := ?_) (bz 38 1023) rfl rfl (any_of HT_.out (by kernel_rfl)) (fun _ _ _ h => h) (Or.inl ⟨by rfl, ?_⟩) ?_ ?_
                     rotate_left
                     ·intro w'
                      go_simp
                      with_reducible rfl
                     rotate_left
                     ·simp only [Act.put, List.setIfInBounds_toArray, List.set_cons_zero, List.set_cons_succ, i64_w, i32_w]
                      rfl
                     refine take_ (i := 10) (N := some 68) (v := ?_) (a' := ?_) (bz 38 2047) rfl rfl (take_ofW HT_.out HW_.out (by kernel_rfl)) (fun _ _ _ h => h) (Or.inl ⟨by rfl, ?_⟩) hHeld ?_ ?_
                     rotate_left
                     ·rintro w' ⟨s0, s1, s2, s3, s4, s5⟩
                      go_simp
                      with_reducible rfl
                     rotate_left
                     ·simp only [Act.put, List.setIfInBounds_toArray, List.set_cons_zero, List.set_cons_succ, i64_w, i32_w]
                      rfl
                     refine pure_ (i := 11) (N := some 69) (v := ?_) (a' := ?_) (bz 38 4095) rfl rfl (any_of HT_.out (by kernel_rfl)) (fun _ _ _ h => h) (Or.inl ⟨by rfl, ?_⟩) ?_ ?_
                     rotate_left
                     ·intro w'
                      go_simp
                      with_reducible rfl
                     rotate_left
                     ·simp only [Act.put, List.setIfInBounds_toArray, List.set_cons_zero, List.set_cons_succ, i64_w, i32_w]
                      rfl
                     refine pure_ (i := 12) (N := some 70) (v := ?_) (a' := ?_) (bz 38 8191) rfl rfl (any_of HT_.out (by kernel_rfl)) (fun _ _ _ h => h) (Or.inl ⟨by rfl, ?_⟩) ?_ ?_
                     rotate_left
                     ·intro w'
                      go_simp
                      with_reducible rfl
                     rotate_left
                     ·simp only [Act.put, List.setIfInBounds_toArray, List.set_cons_zero, List.set_cons_succ, i64_w, i32_w]
                      rfl
                     refine pure_ (i := 13) (N := some 71) (v := ?_) (a' := ?_) (bz 38 16383) rfl rfl (any_of HT_.out (by kernel_rfl)) (fun _ _ _ h => h) (Or.inl ⟨by rfl, ?_⟩) ?_ ?_
                     rotate_left
                     ·intro w'
                      go_simp
                      with_reducible rfl
                     rotate_left
                     ·simp only [Act.put, List.setIfInBounds_toArray, List.set_cons_zero, List.set_cons_succ, i64_w, i32_w]
                      rfl
                     refine pure_ (i := 14) (N := some 72) (v := ?_) (a' := ?_) (bz 38 32767) rfl rfl (any_of HT_.out (by kernel_rfl)) (fun _ _ _ h => h) (Or.inl ⟨by rfl, ?_⟩) ?_ ?_
                     rotate_left
                     ·intro w'
                      go_simp
                      with_reducible rfl
                     rotate_left
                     ·simp only [Act.put, List.setIfInBounds_toArray, List.set_cons_zero, List.set_cons_succ, i64_w, i32_w]
                      rfl
                     refine pure_ (i := 16) (N := some 74) (v := ?_) (a' := ?_) (bz 38 98303) rfl rfl (any_of HT_.out (by kernel_rfl)) (fun _ _ _ h => h) (Or.inl ⟨by rfl, ?_⟩) ?_ ?_
                     rotate_left
                     ·intro w'
                      go_simp
                      with_reducible rfl
                     rotate_left
                     ·simp only [Act.put, List.setIfInBounds_toArray, List.set_cons_zero, List.set_cons_succ, i64_w, i32_w]
                      rfl
                     refine take_ (i := 15) (N := some 73) (v := ?_) (a' := ?_) (bz 38 131071) rfl rfl (take_ofW HT_.out HW_.out (by kernel_rfl)) (fun _ _ _ h => h) (Or.inl ⟨by rfl, ?_⟩) hHeld ?_ ?_
                     rotate_left
                     ·rintro w' ⟨s0, s1, s2, s3, s4, s5⟩
                      go_simp
                      with_reducible rfl
                     rotate_left
                     ·simp only [Act.put, List.setIfInBounds_toArray, List.set_cons_zero, List.set_cons_succ, i64_w, i32_w]
                      rfl
                     refine take_ (i := 17) (N := some 75) (v := ?_) (a' := ?_) (bz 38 262143) rfl rfl (take_ofW HT_.out HW_.out (by kernel_rfl)) (fun _ _ _ h => h) (Or.inl ⟨by rfl, ?_⟩) hHeld ?_ ?_
                     rotate_left
                     ·rintro w' ⟨s0, s1, s2, s3, s4, s5⟩
                      go_simp
                      with_reducible rfl
                     rotate_left
                     ·simp only [Act.put, List.setIfInBounds_toArray, List.set_cons_zero, List.set_cons_succ, i64_w, i32_w]
                      rfl
                     refine pure_ (i := 18) (N := some 76) (v := ?_) (a' := ?_) (bz 38 524287) rfl rfl (any_of HT_.out (by kernel_rfl)) (fun _ _ _ h => h) (Or.inl ⟨by rfl, ?_⟩) ?_ ?_
                     rotate_left
                     ·intro w'
                      go_simp
                      with_reducible rfl
                     rotate_left
                     ·simp only [Act.put, List.setIfInBounds_toArray, List.set_cons_zero, List.set_cons_succ, i64_w, i32_w]
                      rfl
                     refine pure_ (i := 19) (N := some 77) (v := ?_) (a' := ?_) (bz 38 1048575) rfl rfl (any_of HT_.out (by kernel_rfl)) (fun _ _ _ h => h) (Or.inl ⟨by rfl, ?_⟩) ?_ ?_
                     rotate_left
                     ·intro w'
                      go_simp
                      with_reducible rfl
                     rotate_left
                     ·simp only [Act.put, List.setIfInBounds_toArray, List.set_cons_zero, List.set_cons_succ, i64_w, i32_w]
                      rfl
                     refine pure_ (i := 20) (N := some 78) (v := ?_) (a' := ?_) (bz 38 2097151) rfl rfl (any_of HT_.out (by kernel_rfl)) (fun _ _ _ h => h) (Or.inl ⟨by rfl, ?_⟩) ?_ ?_
                     rotate_left
                     ·intro w'
                      go_simp
                      with_reducible rfl
                     rotate_left
                     ·simp only [Act.put, List.setIfInBounds_toArray, List.set_cons_zero, List.set_cons_succ, i64_w, i32_w]
                      rfl
                     refine pure_ (i := 21) (N := some 79) (v := ?_) (a' := ?_) (bz 38 4194303) rfl rfl (any_of HT_.out (by kernel_rfl)) (fun _ _ _ h => h) (Or.inl ⟨by rfl, ?_⟩) ?_ ?_
                     rotate_left
                     ·intro w'
                      go_simp
                      with_reducible rfl
                     rotate_left
                     ·simp only [Act.put, List.setIfInBounds_toArray, List.set_cons_zero, List.set_cons_succ, i64_w, i32_w]
                      rfl
                     refine pure_ (i := 22) (N := some 80) (v := ?_) (a' := ?_) (bz 38 8388607) rfl rfl (any_of HT_.out (by kernel_rfl)) (fun _ _ _ h => h) (Or.inl ⟨by rfl, ?_⟩) ?_ ?_
                     rotate_left
                     ·intro w'
                      go_simp
                      with_reducible rfl
                     rotate_left
                     ·simp only [Act.put, List.setIfInBounds_toArray, List.set_cons_zero, List.set_cons_succ, i64_w, i32_w]
                      rfl
                     refine pure_ (i := 24) (N := some 82) (v := ?_) (a' := ?_) (bz 38 25165823) rfl rfl (any_of HT_.out (by kernel_rfl)) (fun _ _ _ h => h) (Or.inl ⟨by rfl, ?_⟩) ?_ ?_
                     rotate_left
                     ·intro w'
                      go_simp
                      with_reducible rfl
                     rotate_left
                     ·simp only [Act.put, List.setIfInBounds_toArray, List.set_cons_zero, List.set_cons_succ, i64_w, i32_w]
                      rfl
                     refine take_ (i := 23) (N := some 81) (v := ?_) (a' := ?_) (bz 38 33554431) rfl rfl (take_ofW HT_.out HW_.out (by kernel_rfl)) (fun _ _ _ h => h) (Or.inl ⟨by rfl, ?_⟩) hHeld ?_ ?_
                     rotate_left
                     ·rintro w' ⟨s0, s1, s2, s3, s4, s5⟩
                      go_simp
                      with_reducible rfl
                     rotate_left
                     ·simp only [Act.put, List.setIfInBounds_toArray, List.set_cons_zero, List.set_cons_succ, i64_w, i32_w]
                      rfl
                     refine take_ (i := 25) (N := some 83) (v := ?_) (a' := ?_) (bz 38 67108863) rfl rfl (take_ofW HT_.out HW_.out (by kernel_rfl)) (fun _ _ _ h => h) (Or.inl ⟨by rfl, ?_⟩) hHeld ?_ ?_
                     rotate_left
                     ·rintro w' ⟨s0, s1, s2, s3, s4, s5⟩
                      go_simp
                      with_reducible rfl
                     rotate_left
                     ·simp only [Act.put, List.setIfInBounds_toArray, List.set_cons_zero, List.set_cons_succ, i64_w, i32_w]
                      rfl
                     refine pure_ (i := 26) (N := some 84) (v := ?_) (a' := ?_) (bz 38 134217727) rfl rfl (any_of HT_.out (by kernel_rfl)) (fun _ _ _ h => h) (Or.inl ⟨by rfl, ?_⟩) ?_ ?_
                     rotate_left
                     ·intro w'
                      go_simp
                      with_reducible rfl
                     rotate_left
                     ·simp only [Act.put, List.setIfInBounds_toArray, List.set_cons_zero, List.set_cons_succ, i64_w, i32_w]
                      rfl
                     refine take_ (i := 27) (N := some 85) (v := ?_) (a' := ?_) (bz 38 268435455) rfl rfl (take_ofW HT_.out HW_.out (by kernel_rfl)) (fun _ _ _ h => h) (Or.inl ⟨by rfl, ?_⟩) hHeld ?_ ?_
                     rotate_left
                     ·rintro w' ⟨s0, s1, s2, s3, s4, s5⟩
                      go_simp
                      with_reducible rfl
                     rotate_left
                     ·simp only [Act.put, List.setIfInBounds_toArray, List.set_cons_zero, List.set_cons_succ, i64_w, i32_w]
                      rfl
                     refine pure_ (i := 28) (N := some 86) (v := ?_) (a' := ?_) (bz 38 536870911) rfl rfl (any_of HT_.out (by kernel_rfl)) (fun _ _ _ h => h) (Or.inl ⟨by rfl, ?_⟩) ?_ ?_
                     rotate_left
                     ·intro w'
                      go_simp
                      with_reducible rfl
                     rotate_left
                     ·simp only [Act.put, List.setIfInBounds_toArray, List.set_cons_zero, List.set_cons_succ, i64_w, i32_w]
                      rfl
                     refine pure_ (i := 29) (N := some 87) (v := ?_) (a' := ?_) (bz 38 1073741823) rfl rfl (any_of HT_.out (by kernel_rfl)) (fun _ _ _ h => h) (Or.inl ⟨by rfl, ?_⟩) ?_ ?_
                     rotate_left
                     ·intro w'
                      go_simp
                      with_reducible rfl
                     rotate_left
                     ·simp only [Act.put, List.setIfInBounds_toArray, List.set_cons_zero, List.set_cons_succ, i64_w, i32_w]
                      rfl
                     refine pure_ (i := 30) (N := some 88) (v := ?_) (a' := ?_) (bz 38 2147483647) rfl rfl (any_of HT_.out (by kernel_rfl)) (fun _ _ _ h => h) (Or.inl ⟨by rfl, ?_⟩) ?_ ?_
                     rotate_left
                     ·intro w'
                      go_simp
                      with_reducible rfl
                     rotate_left
                     ·simp only [Act.put, List.setIfInBounds_toArray, List.set_cons_zero, List.set_cons_succ, i64_w, i32_w]
                      rfl
                     refine pure_ (i := 31) (N := some 89) (v := ?_) (a' := ?_) (bz 38 4294967295) rfl rfl (any_of HT_.out (by kernel_rfl)) (fun _ _ _ h => h) (Or.inl ⟨by rfl, ?_⟩) ?_ ?_
                     rotate_left
                     ·intro w'
                      go_simp
                      with_reducible rfl
                     rotate_left
                     ·simp only [Act.put, List.setIfInBounds_toArray, List.set_cons_zero, List.set_cons_succ, i64_w, i32_w]
                      rfl
                     refine pure_ (i := 33) (N := some 91) (v := ?_) (a' := ?_) (bz 38 12884901887) rfl rfl (any_of HT_.out (by kernel_rfl)) (fun _ _ _ h => h) (Or.inl ⟨by rfl, ?_⟩) ?_ ?_
                     rotate_left
                     ·intro w'
                      go_simp
                      with_reducible rfl
                     rotate_left
                     ·simp only [Act.put, List.setIfInBounds_toArray, List.set_cons_zero, List.set_cons_succ, i64_w, i32_w]
                      rfl
                     refine take_ (i := 32) (N := some 90) (v := ?_) (a' := ?_) (bz 38 17179869183) rfl rfl (take_ofW HT_.out HW_.out (by kernel_rfl)) (fun _ _ _ h => h) (Or.inl ⟨by rfl, ?_⟩) hHeld ?_ ?_
                     rotate_left
                     ·rintro w' ⟨s0, s1, s2, s3, s4, s5⟩
                      go_simp
                      with_reducible rfl
                     rotate_left
                     ·simp only [Act.put, List.setIfInBounds_toArray, List.set_cons_zero, List.set_cons_succ, i64_w, i32_w]
                      rfl
                     refine pure_ (i := 34) (N := some 92) (v := ?_) (a' := ?_) (bz 38 34359738367) rfl rfl (any_of HT_.out (by kernel_rfl)) (fun _ _ _ h => h) (Or.inl ⟨by rfl, ?_⟩) ?_ ?_
                     rotate_left
                     ·intro w'
                      go_simp
                      with_reducible rfl
                     rotate_left
                     ·simp only [Act.put, List.setIfInBounds_toArray, List.set_cons_zero, List.set_cons_succ, i64_w, i32_w]
                      rfl
                     refine take_ (i := 35) (N := some 93) (v := ?_) (a' := ?_) (bz 38 68719476735) rfl rfl (take_ofW HT_.out HW_.out (by kernel_rfl)) (fun _ _ _ h => h) (Or.inl ⟨by rfl, ?_⟩) hHeld ?_ ?_
                     rotate_left
                     ·rintro w' ⟨s0, s1, s2, s3, s4, s5⟩
                      go_simp
                      with_reducible rfl
                     rotate_left
                     ·simp only [Act.put, List.setIfInBounds_toArray, List.set_cons_zero, List.set_cons_succ, i64_w, i32_w]
                      rfl
                     refine one_ (i := 36) (N := some 94) (bz 38 137438953471) rfl rfl (one_of HT_.out (by kernel_rfl)) (by decide) (fun K hK => ?_)
                     refine goes_ Try.func80 (by kernel_rfl) rfl #[.slice (some ad231) y234.length c0_2, .agg #[.int .i64 ((rd_T112 l0_2 x53_3).f0), .int .i64 ((rd_T112 l0_2 x53_3).f1)]] (by rfl) rfl rfl (by (try simp only [List.map_toArray, List.map_cons, List.map_nil]); first | done | rfl | (simp only [List.length_drop, List.length_take]; rfl)) ?_
                     with_reducible refine (impl_Permit_80.calls k3 _ _ y234 ((rd_T112 l0_2 x53_3).f0) ((rd_T112 l0_2 x53_3).f1) true _ ?side1 ?side2 A58.out).mono ?_
                     (case side1 => exact cb HR237)
                     (case side2 => exact HC237.out)
                     rintro e w66 ⟨rfl, hb⟩
                     refine ⟨_, rfl, ?_⟩
                     have n0_ := bkB BK228 hb
                     have n1_ := bkB BK232 hb
                     have n2_ := Aside0.mk (below_step bw hb)
                     clear BK228
                     clear BK232
                     clear HB
                     have BK228 := n0_
                     have BK232 := n1_
                     have HB := n2_
                     clear n0_ n1_ n2_
                     (try clear hb)
                     (try clear hb2)
                     (try clear hk)
                     (try clear hi)
                     refine hK.out _ _ ⟨(blk_cell BK232.out 0).trans rfl, (blk_cell BK232.out 1).trans rfl, (blk_cell BK228.out 0).trans rfl, (blk_cell BK228.out 1).trans rfl, (blk_cell BK228.out 2).trans rfl, ((HB.out.cell (World.block_lt_of_cell? w _ hw233_0)).trans hw233_0)⟩ (fun hHeld => ?_)
                     clear hK K
                     refine norm_ (a' := ?_) ?_ ?_
                     rotate_left
                     ·show Act.put _ (some 94) _ = _
                      simp only [Act.put, List.setIfInBounds_toArray, List.set_cons_zero, List.set_cons_succ, i64_w, i32_w]
                      rfl
                     refine pure_ (i := 37) (N := some 95) (v := ?_) (a' := ?_) (bz 38 274877906943) rfl rfl (any_of HT_.out (by kernel_rfl)) (fun _ _ _ h => h) (Or.inl ⟨by rfl, ?_⟩) ?_ ?_
                     rotate_left
                     ·intro w'
                      go_simp
                      with_reducible rfl
                     rotate_left
                     ·simp only [Act.put, List.setIfInBounds_toArray, List.set_cons_zero, List.set_cons_succ, i64_w, i32_w]
                      rfl
                     refine done_ (done_of HT_.out (by kernel_rfl)) ?_
                     try go_wp2
                     go_ret
                     exact ⟨by first | rfl | (simp [errW_none, errW_some] <;> rfl) | (simp [*, errW_none, errW_some] <;> rfl), bw⟩
                    ·replace c59 := Bool.eq_false_iff.mpr c59
                     subst c59
                     have H1 : (impl_WorkValid.l1 k3 l0_2 (l0_2.length : Int) (wrap64 (x53_3 + 1)) l0_0 l0_1 l0_2) = some r := by rw [if_neg (show ¬ (false = true) by decide)] at H; exact H
                     clear H
                     have H := H1
                     clear H1
                     have H' := Aside0.mk H
                     clear H
                     have p231 : 0 ≤ (x53_3 : Int) := of_decide_eq_true (by first | (with_reducible assumption) | assumption)
                     have q231 : x53_3 < (l0_2.length : Int) := of_decide_eq_true (by first | (with_reducible assumption) | assumption)
                     obtain ⟨ad231, e231, hx231_0, hx231_1⟩ := at_T112 HR0_2.out x53_3 p231 q231
                     cases e231
                     replace hx231_0 := (HB.out.cell (World.block_lt_of_cell? w _ hx231_0)).trans hx231_0
                     replace hx231_1 := (HB.out.cell (World.block_lt_of_cell? w _ hx231_1)).trans hx231_1
                     replace p231 := eq_true p231
                     replace q231 := eq_true q231
                     try go_wp2_with (first | ((with_reducible refine gate_dst (N := 5) rfl ?_); (try (refine gate_guard (by rfl) ?_; dsimp only)); refine box_event ?hg (N := 5) ?hd (cs := #[.int .i64 0, .int .i64 0]) (t := 112) ?hr ?_; (case hd => rfl); (case hg => rfl); (case hr => first | (go_simp; done) | (go_simp; rfl)); intro gb232 hg w67 hbox hb; have n0_ := bkB BK228 hb; have n1_ := Aside0.mk (below_step bw hb); have n2_ := Aside0.mk (hbox); have n3_ := Aside0.mk ((by rw [hg]; exact (below_size bw) : w.heap.size ≤ gb232)); have n4_ := Aside0.mk ((by rw [hg]; exact (below_size bw) : w.heap.size ≤ gb232)); have n5_ := Aside0.mk ((by rw [hg]; exact Nat.ne_of_lt (blk_lt (g := gb228) (o := .cells #[.slice A0_0 l0_0.length c0_0, .slice A0_1 l0_1.length c0_1, .slice (some ad231) l0_2.length c0_2] 73 (0, 0)) (bk BK228)) : gb228 ≠ gb232)); have n6_ := Aside0.mk ((by rw [hg]; exact Nat.ne_of_gt (blk_lt (g := gb228) (o := .cells #[.slice A0_0 l0_0.length c0_0, .slice A0_1 l0_1.length c0_1, .slice (some ad231) l0_2.length c0_2] 73 (0, 0)) (bk BK228)) : gb232 ≠ gb228)); clear BK228 HB; have BK228 := n0_; have HB := n1_; have BK232 := n2_; have GW232 := n3_; have GE232 := n4_; have NB228_232 := n5_; have NB232_228 := n6_; clear n0_ n1_ n2_ n3_ n4_ n5_ n6_; clear hb hbox hg; have hnb68 := NB232_228.out; have hnc68 := NB228_232.out; have hcz69_0 : w67.cell? ⟨gb232, 0, none⟩ = some (.int .i64 0) := (blk_cell BK232.out 0).trans rfl; have hcz69_1 : w67.cell? ⟨gb232, 1, none⟩ = some (.int .i64 0) := (blk_cell BK232.out 1).trans rfl; have hfz69_0 := blk_frozen BK232.out 0; have hfz69_1 := blk_frozen BK232.out 1))
                     have n0_ : Aside0 (((w67.setCell ⟨gb232, 0, none⟩ (.int .i64 ((rd_T112 l0_2 x53_3).f0))).setCell ⟨gb232, 1, none⟩ (.int .i64 ((rd_T112 l0_2 x53_3).f1))).heap[gb228]? = some (.cells #[.slice A0_0 l0_0.length c0_0, .slice A0_1 l0_1.length c0_1, .slice (some ad231) l0_2.length c0_2] 73 (0, 0))) := ⟨by (with_reducible repeat (first | refine blk_drewN ?_ _ | refine blk_drew ?_ | refine blk_alloc ?_ _)); refine blk_far ?_ NB228_232.out _; (with_reducible repeat (first | refine blk_drewN ?_ _ | refine blk_drew ?_ | refine blk_alloc ?_ _)); refine blk_far ?_ NB228_232.out _; (with_reducible repeat (first | refine blk_drewN ?_ _ | refine blk_drew ?_ | refine blk_alloc ?_ _)); exact BK228.out⟩
                     have n1_ : Aside0 (((w67.setCell ⟨gb232, 0, none⟩ (.int .i64 ((rd_T112 l0_2 x53_3).f0))).setCell ⟨gb232, 1, none⟩ (.int .i64 ((rd_T112 l0_2 x53_3).f1))).heap[gb232]? = some (.cells #[.int .i64 ((rd_T112 l0_2 x53_3).f0), .int .i64 ((rd_T112 l0_2 x53_3).f1)] 112 (0, 0))) := ⟨by (with_reducible repeat (first | refine blk_drewN ?_ _ | refine blk_drew ?_ | refine blk_alloc ?_ _)); refine blk_put (cs := #[.int .i64 ((rd_T112 l0_2 x53_3).f0), .int .i64 0]) ?_ 1 _ rfl; (with_reducible repeat (first | refine blk_drewN ?_ _ | refine blk_drew ?_ | refine blk_alloc ?_ _)); refine blk_put (cs := #[.int .i64 0, .int .i64 0]) ?_ 0 _ rfl; (with_reducible repeat (first | refine blk_drewN ?_ _ | refine blk_drew ?_ | refine blk_alloc ?_ _)); exact BK232.out⟩
                     have n2_ : Aside0 (Below w.heap.size w ((w67.setCell ⟨gb232, 0, none⟩ (.int .i64 ((rd_T112 l0_2 x53_3).f0))).setCell ⟨gb232, 1, none⟩ (.int .i64 ((rd_T112 l0_2 x53_3).f1)))) := ⟨bw⟩
                     (try clear BK228)
                     (try clear BK232)
                     (try clear HB)
                     generalize ((w67.setCell ⟨gb232, 0, none⟩ (.int .i64 ((rd_T112 l0_2 x53_3).f0))).setCell ⟨gb232, 1, none⟩ (.int .i64 ((rd_T112 l0_2 x53_3).f1))) = w70 at n0_ n1_ n2_ ⊢
                     have BK228 := n0_
                     have BK232 := n1_
                     have HB := n2_
                     clear n0_ n1_ n2_
                     have n0_ := Aside0.mk (blk_drew BK228.out)
                     have n1_ := Aside0.mk (blk_drew BK232.out)
                     have n2_ := Aside0.mk (below_drew1 HB.out)
                     clear BK228
                     clear BK232
                     clear HB
                     have BK228 := n0_
                     have BK232 := n1_
                     have HB := n2_
                     clear n0_ n1_ n2_
                     have p233 : 0 ≤ (((rd_T112 l0_2 x53_3).f1) : Int) := of_decide_eq_true (by first | (with_reducible assumption) | assumption)
                     have q233 : ((rd_T112 l0_2 x53_3).f1) < (l0_1.length : Int) := of_decide_eq_true (by first | (with_reducible assumption) | assumption)
                     obtain ⟨ad233, e233, hx233_0⟩ := Kd.at_bool HR0_1.out ((rd_T112 l0_2 x53_3).f1) p233 q233
                     have hw233_0 := hx233_0
                     (try rw [← Nbq54.out] at hx233_0)
                     (try rw [← Nbq54.out] at hw233_0)
                     cases e233
                     replace hx233_0 := (HB.out.cell (World.block_lt_of_cell? w _ hx233_0)).trans hx233_0
                     replace p233 := eq_true p233
                     replace q233 := eq_true q233
                     have q72 : (x53_3 : Int) ≤ ((l0_2.length : Int) : Int) := of_decide_eq_true (by first | (with_reducible assumption) | assumption)
                     obtain ⟨i072, hi072, _, hsz72, _⟩ := info_parts info112
                     have hroom72 : l0_2.length ≤ c0_2 := HC0_2.out
                     have hC72 : Kd.C k112 _ (some ad231) l0_2.length l0_2 := HR0_2.out
                     have hcut72 := cut_to (P := Try.prog) 71 112 .i64 Try.underlying71 hi072 (some ad231) l0_2.length c0_2 x53_3 (of_decide_eq_true (by first | (with_reducible assumption) | assumption)) q72 hroom72
                     have hr72 := Kd.C_take (m := (x53_3 : Int).toNat) hC72 (by omega)
                     have hy72 : y234.length = (x53_3 : Int).toNat := (by rw [Ny234.out, List.length_take]; omega)
                     rw [← Ny234.out] at hr72
                     rw [← hy72] at hcut72
                     have HR237 := Aside0.mk hr72
                     have HC237 := Aside0.mk (show y234.length ≤ c0_2 from by omega)
                     clear hr72 hC72 hroom72 hi072 hsz72
                     have KY72 := Aside0.mk hy72
                     clear hy72
                     replace q72 := eq_true q72
                     refine start_ (n := 38) (S := fun w' => w'.cell? ⟨gb232, 0, none⟩ = some (.int .i64 ((rd_T112 l0_2 x53_3).f0)) ∧ w'.cell? ⟨gb232, 1, none⟩ = some (.int .i64 ((rd_T112 l0_2 x53_3).f1)) ∧ w'.cell? ⟨gb228, 0, none⟩ = some (.slice A0_0 l0_0.length c0_0) ∧ w'.cell? ⟨gb228, 1, none⟩ = some (.slice (some ad233) l0_1.length c0_1) ∧ w'.cell? ⟨gb228, 2, none⟩ = some (.slice (some ad231) l0_2.length c0_2) ∧ w'.cell? (ad233.add (((rd_T112 l0_2 x53_3).f1)).toNat) = some (.bool true)) (ds := []) (bz 38 0) (by kernel_rfl) rfl rfl ⟨(blk_cell BK232.out 0).trans rfl, (blk_cell BK232.out 1).trans rfl, (blk_cell BK228.out 0).trans rfl, (blk_cell BK228.out 1).trans rfl, (blk_cell BK228.out 2).trans rfl, ((HB.out.cell (World.block_lt_of_cell? w _ hw233_0)).trans hw233_0)⟩ (fun hHeld => ?_); refine with_tabW impl_WorkValid.tab12 impl_WorkValid.bits12 (fun HT_ HW_ => ?_)
                     generalize w70.drew = w71 at BK228 BK232 HB HR237 hx233_0 hHeld ⊢
                     refine pure_ (i := 0) (N := some 58) (v := ?_) (a' := ?_) (bz 38 1) rfl rfl (any_of HT_.out (by kernel_rfl)) (fun _ _ _ h => h) (Or.inl ⟨by rfl, ?_⟩) ?_ ?_
                     rotate_left
                     ·intro w'
                      go_simp
                      with_reducible rfl
                     rotate_left
                     ·simp only [Act.put, List.setIfInBounds_toArray, List.set_cons_zero, List.set_cons_succ, i64_w, i32_w]
                      rfl
                     refine take_ (i := 1) (N := some 59) (v := ?_) (a' := ?_) (bz 38 3) rfl rfl (take_ofW HT_.out HW_.out (by kernel_rfl)) (fun _ _ _ h => h) (Or.inl ⟨by rfl, ?_⟩) hHeld ?_ ?_
                     rotate_left
                     ·rintro w' ⟨s0, s1, s2, s3, s4, s5⟩
                      go_simp
                      with_reducible rfl
                     rotate_left
                     ·simp only [Act.put, List.setIfInBounds_toArray, List.set_cons_zero, List.set_cons_succ, i64_w, i32_w]
                      rfl
                     refine pure_ (i := 2) (N := some 60) (v := ?_) (a' := ?_) (bz 38 7) rfl rfl (any_of HT_.out (by kernel_rfl)) (fun _ _ _ h => h) (Or.inl ⟨by rfl, ?_⟩) ?_ ?_
                     rotate_left
                     ·intro w'
                      go_simp
                      with_reducible rfl
                     rotate_left
                     ·simp only [Act.put, List.setIfInBounds_toArray, List.set_cons_zero, List.set_cons_succ, i64_w, i32_w]
                      rfl
                     refine pure_ (i := 3) (N := some 61) (v := ?_) (a' := ?_) (bz 38 15) rfl rfl (any_of HT_.out (by kernel_rfl)) (fun _ _ _ h => h) (Or.inl ⟨by rfl, ?_⟩) ?_ ?_
                     rotate_left
                     ·intro w'
                      go_simp
                      with_reducible rfl
                     rotate_left
                     ·simp only [Act.put, List.setIfInBounds_toArray, List.set_cons_zero, List.set_cons_succ, i64_w, i32_w]
                      rfl
                     refine pure_ (i := 4) (N := some 62) (v := ?_) (a' := ?_) (bz 38 31) rfl rfl (any_of HT_.out (by kernel_rfl)) (fun _ _ _ h => h) (Or.inl ⟨by rfl, ?_⟩) ?_ ?_
                     rotate_left
                     ·intro w'
                      go_simp
                      with_reducible rfl
                     rotate_left
                     ·simp only [Act.put, List.setIfInBounds_toArray, List.set_cons_zero, List.set_cons_succ, i64_w, i32_w]
                      rfl
                     refine take_ (i := 5) (N := some 63) (v := ?_) (a' := ?_) (bz 38 63) rfl rfl (take_ofW HT_.out HW_.out (by kernel_rfl)) (fun _ _ _ h => h) (Or.inl ⟨by rfl, ?_⟩) hHeld ?_ ?_
                     rotate_left
                     ·rintro w' ⟨s0, s1, s2, s3, s4, s5⟩
                      go_simp
                      with_reducible rfl
                     rotate_left
                     ·simp only [Act.put, List.setIfInBounds_toArray, List.set_cons_zero, List.set_cons_succ, i64_w, i32_w]
                      rfl
                     refine pure_ (i := 6) (N := some 64) (v := ?_) (a' := ?_) (bz 38 127) rfl rfl (any_of HT_.out (by kernel_rfl)) (fun _ _ _ h => h) (Or.inl ⟨by rfl, ?_⟩) ?_ ?_
                     rotate_left
                     ·intro w'
                      go_simp
                      with_reducible rfl
                     rotate_left
                     ·simp only [Act.put, List.setIfInBounds_toArray, List.set_cons_zero, List.set_cons_succ, i64_w, i32_w]
                      rfl
                     refine pure_ (i := 7) (N := some 65) (v := ?_) (a' := ?_) (bz 38 255) rfl rfl (any_of HT_.out (by kernel_rfl)) (fun _ _ _ h => h) (Or.inl ⟨by rfl, ?_⟩) ?_ ?_
                     rotate_left
                     ·intro w'
                      go_simp
                      with_reducible rfl
                     rotate_left
                     ·simp only [Act.put, List.setIfInBounds_toArray, List.set_cons_zero, List.set_cons_succ, i64_w, i32_w]
                      rfl
                     refine pure_ (i := 8) (N := some 66) (v := ?_) (a' := ?_) (bz 38 511) rfl rfl (any_of HT_.out (by kernel_rfl)) (fun _ _ _ h => h) (Or.inl ⟨by rfl, ?_⟩) ?_ ?_
                     rotate_left
                     ·intro w'
                      go_simp
                      with_reducible rfl
                     rotate_left
                     ·simp only [Act.put, List.setIfInBounds_toArray, List.set_cons_zero, List.set_cons_succ, i64_w, i32_w]
                      rfl
                     refine pure_ (i := 9) (N := some 67) (v := ?_) (a' := ?_) (bz 38 1023) rfl rfl (any_of HT_.out (by kernel_rfl)) (fun _ _ _ h => h) (Or.inl ⟨by rfl, ?_⟩) ?_ ?_
                     rotate_left
                     ·intro w'
                      go_simp
                      with_reducible rfl
                     rotate_left
                     ·simp only [Act.put, List.setIfInBounds_toArray, List.set_cons_zero, List.set_cons_succ, i64_w, i32_w]
                      rfl
                     refine take_ (i := 10) (N := some 68) (v := ?_) (a' := ?_) (bz 38 2047) rfl rfl (take_ofW HT_.out HW_.out (by kernel_rfl)) (fun _ _ _ h => h) (Or.inl ⟨by rfl, ?_⟩) hHeld ?_ ?_
                     rotate_left
                     ·rintro w' ⟨s0, s1, s2, s3, s4, s5⟩
                      go_simp
                      with_reducible rfl
                     rotate_left
                     ·simp only [Act.put, List.setIfInBounds_toArray, List.set_cons_zero, List.set_cons_succ, i64_w, i32_w]
                      rfl
                     refine pure_ (i := 11) (N := some 69) (v := ?_) (a' := ?_) (bz 38 4095) rfl rfl (any_of HT_.out (by kernel_rfl)) (fun _ _ _ h => h) (Or.inl ⟨by rfl, ?_⟩) ?_ ?_
                     rotate_left
                     ·intro w'
                      go_simp
                      with_reducible rfl
                     rotate_left
                     ·simp only [Act.put, List.setIfInBounds_toArray, List.set_cons_zero, List.set_cons_succ, i64_w, i32_w]
                      rfl
                     refine pure_ (i := 12) (N := some 70) (v := ?_) (a' := ?_) (bz 38 8191) rfl rfl (any_of HT_.out (by kernel_rfl)) (fun _ _ _ h => h) (Or.inl ⟨by rfl, ?_⟩) ?_ ?_
                     rotate_left
                     ·intro w'
                      go_simp
                      with_reducible rfl
                     rotate_left
                     ·simp only [Act.put, List.setIfInBounds_toArray, List.set_cons_zero, List.set_cons_succ, i64_w, i32_w]
                      rfl
                     refine pure_ (i := 13) (N := some 71) (v := ?_) (a' := ?_) (bz 38 16383) rfl rfl (any_of HT_.out (by kernel_rfl)) (fun _ _ _ h => h) (Or.inl ⟨by rfl, ?_⟩) ?_ ?_
                     rotate_left
                     ·intro w'
                      go_simp
                      with_reducible rfl
                     rotate_left
                     ·simp only [Act.put, List.setIfInBounds_toArray, List.set_cons_zero, List.set_cons_succ, i64_w, i32_w]
                      rfl
                     refine pure_ (i := 14) (N := some 72) (v := ?_) (a' := ?_) (bz 38 32767) rfl rfl (any_of HT_.out (by kernel_rfl)) (fun _ _ _ h => h) (Or.inl ⟨by rfl, ?_⟩) ?_ ?_
                     rotate_left
                     ·intro w'
                      go_simp
                      with_reducible rfl
                     rotate_left
                     ·simp only [Act.put, List.setIfInBounds_toArray, List.set_cons_zero, List.set_cons_succ, i64_w, i32_w]
                      rfl
                     refine pure_ (i := 16) (N := some 74) (v := ?_) (a' := ?_) (bz 38 98303) rfl rfl (any_of HT_.out (by kernel_rfl)) (fun _ _ _ h => h) (Or.inl ⟨by rfl, ?_⟩) ?_ ?_
                     rotate_left
                     ·intro w'
                      go_simp
                      with_reducible rfl
                     rotate_left
                     ·simp only [Act.put, List.setIfInBounds_toArray, List.set_cons_zero, List.set_cons_succ, i64_w, i32_w]
                      rfl
                     refine take_ (i := 15) (N := some 73) (v := ?_) (a' := ?_) (bz 38 131071) rfl rfl (take_ofW HT_.out HW_.out (by kernel_rfl)) (fun _ _ _ h => h) (Or.inl ⟨by rfl, ?_⟩) hHeld ?_ ?_
                     rotate_left
                     ·rintro w' ⟨s0, s1, s2, s3, s4, s5⟩
                      go_simp
                      with_reducible rfl
                     rotate_left
                     ·simp only [Act.put, List.setIfInBounds_toArray, List.set_cons_zero, List.set_cons_succ, i64_w, i32_w]
                      rfl
                     refine take_ (i := 17) (N := some 75) (v := ?_) (a' := ?_) (bz 38 262143) rfl rfl (take_ofW HT_.out HW_.out (by kernel_rfl)) (fun _ _ _ h => h) (Or.inl ⟨by rfl, ?_⟩) hHeld ?_ ?_
                     rotate_left
                     ·rintro w' ⟨s0, s1, s2, s3, s4, s5⟩
                      go_simp
                      with_reducible rfl
                     rotate_left
                     ·simp only [Act.put, List.setIfInBounds_toArray, List.set_cons_zero, List.set_cons_succ, i64_w, i32_w]
                      rfl
                     refine pure_ (i := 18) (N := some 76) (v := ?_) (a' := ?_) (bz 38 524287) rfl rfl (any_of HT_.out (by kernel_rfl)) (fun _ _ _ h => h) (Or.inl ⟨by rfl, ?_⟩) ?_ ?_
                     rotate_left
                     ·intro w'
                      go_simp
                      with_reducible rfl
                     rotate_left
                     ·simp only [Act.put, List.setIfInBounds_toArray, List.set_cons_zero, List.set_cons_succ, i64_w, i32_w]
                      rfl
                     refine pure_ (i := 19) (N := some 77) (v := ?_) (a' := ?_) (bz 38 1048575) rfl rfl (any_of HT_.out (by kernel_rfl)) (fun _ _ _ h => h) (Or.inl ⟨by rfl, ?_⟩) ?_ ?_
                     rotate_left
                     ·intro w'
                      go_simp
                      with_reducible rfl
                     rotate_left
                     ·simp only [Act.put, List.setIfInBounds_toArray, List.set_cons_zero, List.set_cons_succ, i64_w, i32_w]
                      rfl
                     refine pure_ (i := 20) (N := some 78) (v := ?_) (a' := ?_) (bz 38 2097151) rfl rfl (any_of HT_.out (by kernel_rfl)) (fun _ _ _ h => h) (Or.inl ⟨by rfl, ?_⟩) ?_ ?_
                     rotate_left
                     ·intro w'
                      go_simp
                      with_reducible rfl
                     rotate_left
                     ·simp only [Act.put, List.setIfInBounds_toArray, List.set_cons_zero, List.set_cons_succ, i64_w, i32_w]
                      rfl
                     refine pure_ (i := 21) (N := some 79) (v := ?_) (a' := ?_) (bz 38 4194303) rfl rfl (any_of HT_.out (by kernel_rfl)) (fun _ _ _ h => h) (Or.inl ⟨by rfl, ?_⟩) ?_ ?_
                     rotate_left
                     ·intro w'
                      go_simp
                      with_reducible rfl
                     rotate_left
                     ·simp only [Act.put, List.setIfInBounds_toArray, List.set_cons_zero, List.set_cons_succ, i64_w, i32_w]
                      rfl
                     refine pure_ (i := 22) (N := some 80) (v := ?_) (a' := ?_) (bz 38 8388607) rfl rfl (any_of HT_.out (by kernel_rfl)) (fun _ _ _ h => h) (Or.inl ⟨by rfl, ?_⟩) ?_ ?_
                     rotate_left
                     ·intro w'
                      go_simp
                      with_reducible rfl
                     rotate_left
                     ·simp only [Act.put, List.setIfInBounds_toArray, List.set_cons_zero, List.set_cons_succ, i64_w, i32_w]
                      rfl
                     refine pure_ (i := 24) (N := some 82) (v := ?_) (a' := ?_) (bz 38 25165823) rfl rfl (any_of HT_.out (by kernel_rfl)) (fun _ _ _ h => h) (Or.inl ⟨by rfl, ?_⟩) ?_ ?_
                     rotate_left
                     ·intro w'
                      go_simp
                      with_reducible rfl
                     rotate_left
                     ·simp only [Act.put, List.setIfInBounds_toArray, List.set_cons_zero, List.set_cons_succ, i64_w, i32_w]
                      rfl
                     refine take_ (i := 23) (N := some 81) (v := ?_) (a' := ?_) (bz 38 33554431) rfl rfl (take_ofW HT_.out HW_.out (by kernel_rfl)) (fun _ _ _ h => h) (Or.inl ⟨by rfl, ?_⟩) hHeld ?_ ?_
                     rotate_left
                     ·rintro w' ⟨s0, s1, s2, s3, s4, s5⟩
                      go_simp
                      with_reducible rfl
                     rotate_left
                     ·simp only [Act.put, List.setIfInBounds_toArray, List.set_cons_zero, List.set_cons_succ, i64_w, i32_w]
                      rfl
                     refine take_ (i := 25) (N := some 83) (v := ?_) (a' := ?_) (bz 38 67108863) rfl rfl (take_ofW HT_.out HW_.out (by kernel_rfl)) (fun _ _ _ h => h) (Or.inl ⟨by rfl, ?_⟩) hHeld ?_ ?_
                     rotate_left
                     ·rintro w' ⟨s0, s1, s2, s3, s4, s5⟩
                      go_simp
                      with_reducible rfl
                     rotate_left
                     ·simp only [Act.put, List.setIfInBounds_toArray, List.set_cons_zero, List.set_cons_succ, i64_w, i32_w]
                      rfl
                     refine pure_ (i := 26) (N := some 84) (v := ?_) (a' := ?_) (bz 38 134217727) rfl rfl (any_of HT_.out (by kernel_rfl)) (fun _ _ _ h => h) (Or.inl ⟨by rfl, ?_⟩) ?_ ?_
                     rotate_left
                     ·intro w'
                      go_simp
                      with_reducible rfl
                     rotate_left
                     ·simp only [Act.put, List.setIfInBounds_toArray, List.set_cons_zero, List.set_cons_succ, i64_w, i32_w]
                      rfl
                     refine take_ (i := 27) (N := some 85) (v := ?_) (a' := ?_) (bz 38 268435455) rfl rfl (take_ofW HT_.out HW_.out (by kernel_rfl)) (fun _ _ _ h => h) (Or.inl ⟨by rfl, ?_⟩) hHeld ?_ ?_
                     rotate_left
                     ·rintro w' ⟨s0, s1, s2, s3, s4, s5⟩
                      go_simp
                      with_reducible rfl
                     rotate_left
                     ·simp only [Act.put, List.setIfInBounds_toArray, List.set_cons_zero, List.set_cons_succ, i64_w, i32_w]
                      rfl
                     refine pure_ (i := 28) (N := some 86) (v := ?_) (a' := ?_) (bz 38 536870911) rfl rfl (any_of HT_.out (by kernel_rfl)) (fun _ _ _ h => h) (Or.inl ⟨by rfl, ?_⟩) ?_ ?_
                     rotate_left
                     ·intro w'
                      go_simp
                      with_reducible rfl
                     rotate_left
                     ·simp only [Act.put, List.setIfInBounds_toArray, List.set_cons_zero, List.set_cons_succ, i64_w, i32_w]
                      rfl
                     refine pure_ (i := 29) (N := some 87) (v := ?_) (a' := ?_) (bz 38 1073741823) rfl rfl (any_of HT_.out (by kernel_rfl)) (fun _ _ _ h => h) (Or.inl ⟨by rfl, ?_⟩) ?_ ?_
                     rotate_left
                     ·intro w'
                      go_simp
                      with_reducible rfl
                     rotate_left
                     ·simp only [Act.put, List.setIfInBounds_toArray, List.set_cons_zero, List.set_cons_succ, i64_w, i32_w]
                      rfl
                     refine pure_ (i := 30) (N := some 88) (v := ?_) (a' := ?_) (bz 38 2147483647) rfl rfl (any_of HT_.out (by kernel_rfl)) (fun _ _ _ h => h) (Or.inl ⟨by rfl, ?_⟩) ?_ ?_
                     rotate_left
                     ·intro w'
                      go_simp
                      with_reducible rfl
                     rotate_left
                     ·simp only [Act.put, List.setIfInBounds_toArray, List.set_cons_zero, List.set_cons_succ, i64_w, i32_w]
                      rfl
                     refine pure_ (i := 31) (N := some 89) (v := ?_) (a' := ?_) (bz 38 4294967295) rfl rfl (any_of HT_.out (by kernel_rfl)) (fun _ _ _ h => h) (Or.inl ⟨by rfl, ?_⟩) ?_ ?_
                     rotate_left
                     ·intro w'
                      go_simp
                      with_reducible rfl
                     rotate_left
                     ·simp only [Act.put, List.setIfInBounds_toArray, List.set_cons_zero, List.set_cons_succ, i64_w, i32_w]
                      rfl
                     refine pure_ (i := 33) (N := some 91) (v := ?_) (a' := ?_) (bz 38 12884901887) rfl rfl (any_of HT_.out (by kernel_rfl)) (fun _ _ _ h => h) (Or.inl ⟨by rfl, ?_⟩) ?_ ?_
                     rotate_left
                     ·intro w'
                      go_simp
                      with_reducible rfl
                     rotate_left
                     ·simp only [Act.put, List.setIfInBounds_toArray, List.set_cons_zero, List.set_cons_succ, i64_w, i32_w]
                      rfl
                     refine take_ (i := 32) (N := some 90) (v := ?_) (a' := ?_) (bz 38 17179869183) rfl rfl (take_ofW HT_.out HW_.out (by kernel_rfl)) (fun _ _ _ h => h) (Or.inl ⟨by rfl, ?_⟩) hHeld ?_ ?_
                     rotate_left
                     ·rintro w' ⟨s0, s1, s2, s3, s4, s5⟩
                      go_simp
                      with_reducible rfl
                     rotate_left
                     ·simp only [Act.put, List.setIfInBounds_toArray, List.set_cons_zero, List.set_cons_succ, i64_w, i32_w]
                      rfl
                     refine pure_ (i := 34) (N := some 92) (v := ?_) (a' := ?_) (bz 38 34359738367) rfl rfl (any_of HT_.out (by kernel_rfl)) (fun _ _ _ h => h) (Or.inl ⟨by rfl, ?_⟩) ?_ ?_
                     rotate_left
                     ·intro w'
                      go_simp
                      with_reducible rfl
                     rotate_left
                     ·simp only [Act.put, List.setIfInBounds_toArray, List.set_cons_zero, List.set_cons_succ, i64_w, i32_w]
                      rfl
                     refine take_ (i := 35) (N := some 93) (v := ?_) (a' := ?_) (bz 38 68719476735) rfl rfl (take_ofW HT_.out HW_.out (by kernel_rfl)) (fun _ _ _ h => h) (Or.inl ⟨by rfl, ?_⟩) hHeld ?_ ?_
                     rotate_left
                     ·rintro w' ⟨s0, s1, s2, s3, s4, s5⟩
                      go_simp
                      with_reducible rfl
                     rotate_left
                     ·simp only [Act.put, List.setIfInBounds_toArray, List.set_cons_zero, List.set_cons_succ, i64_w, i32_w]
                      rfl
                     refine one_ (i := 36) (N := some 94) (bz 38 137438953471) rfl rfl (one_of HT_.out (by kernel_rfl)) (by decide) (fun K hK => ?_)
                     refine goes_ Try.func80 (by kernel_rfl) rfl #[.slice (some ad231) y234.length c0_2, .agg #[.int .i64 ((rd_T112 l0_2 x53_3).f0), .int .i64 ((rd_T112 l0_2 x53_3).f1)]] (by rfl) rfl rfl (by (try simp only [List.map_toArray, List.map_cons, List.map_nil]); first | done | rfl | (simp only [List.length_drop, List.length_take]; rfl)) ?_
                     with_reducible refine (impl_Permit_80.calls k3 _ _ y234 ((rd_T112 l0_2 x53_3).f0) ((rd_T112 l0_2 x53_3).f1) false _ ?side1 ?side2 A58.out).mono ?_
                     (case side1 => exact cb HR237)
                     (case side2 => exact HC237.out)
                     rintro e w73 ⟨rfl, hb⟩
                     refine ⟨_, rfl, ?_⟩
                     have n0_ := bkB BK228 hb
                     have n1_ := bkB BK232 hb
                     have n2_ := Aside0.mk (below_step bw hb)
                     clear BK228
                     clear BK232
                     clear HB
                     have BK228 := n0_
                     have BK232 := n1_
                     have HB := n2_
                     clear n0_ n1_ n2_
                     (try clear hb)
                     (try clear hb2)
                     (try clear hk)
                     (try clear hi)
                     refine hK.out _ _ ⟨(blk_cell BK232.out 0).trans rfl, (blk_cell BK232.out 1).trans rfl, (blk_cell BK228.out 0).trans rfl, (blk_cell BK228.out 1).trans rfl, (blk_cell BK228.out 2).trans rfl, ((HB.out.cell (World.block_lt_of_cell? w _ hw233_0)).trans hw233_0)⟩ (fun hHeld => ?_)
                     clear hK K
                     refine norm_ (a' := ?_) ?_ ?_
                     rotate_left
                     ·show Act.put _ (some 94) _ = _
                      simp only [Act.put, List.setIfInBounds_toArray, List.set_cons_zero, List.set_cons_succ, i64_w, i32_w]
                      rfl
                     refine pure_ (i := 37) (N := some 95) (v := ?_) (a' := ?_) (bz 38 274877906943) rfl rfl (any_of HT_.out (by kernel_rfl)) (fun _ _ _ h => h) (Or.inl ⟨by rfl, ?_⟩) ?_ ?_
                     rotate_left
                     ·intro w'
                      go_simp
                      with_reducible rfl
                     rotate_left
                     ·simp only [Act.put, List.setIfInBounds_toArray, List.set_cons_zero, List.set_cons_succ, i64_w, i32_w]
                      rfl
                     refine done_ (done_of HT_.out (by kernel_rfl)) ?_
                     try go_wp2
                     go_roundg k3
                     case measure => have := HJ1.out; have := HK2.out; have := HK3.out; omega
                     case rel => exact ⟨(wrap64 (x53_3 + 1)), (by first | rfl | (simp; done) | (simp [*]; done)), H', ⟨by have := HJ1.out; have := HK2.out; have := HK3.out; omega⟩, ⟨bk BK228⟩, ⟨bw⟩⟩
                   ·rw [if_neg c57] at H
                    exact absurd H (by simp)
                  ·replace c55 := Bool.eq_false_iff.mpr c55
                   subst c55
                   have H1 : (some false) = some r := by rw [if_neg (show ¬ (false = true) by decide)] at H; exact H
                   clear H
                   have H := H1
                   clear H1
                   obtain rfl := Option.some.inj H
                   have p231 : 0 ≤ (x53_3 : Int) := of_decide_eq_true (by first | (with_reducible assumption) | assumption)
                   have q231 : x53_3 < (l0_2.length : Int) := of_decide_eq_true (by first | (with_reducible assumption) | assumption)
                   obtain ⟨ad231, e231, hx231_0, hx231_1⟩ := at_T112 HR0_2.out x53_3 p231 q231
                   cases e231
                   replace hx231_0 := (HB.out.cell (World.block_lt_of_cell? w _ hx231_0)).trans hx231_0
                   replace hx231_1 := (HB.out.cell (World.block_lt_of_cell? w _ hx231_1)).trans hx231_1
                   replace p231 := eq_true p231
                   replace q231 := eq_true q231
                   try go_wp2_with (first | ((with_reducible refine gate_dst (N := 5) rfl ?_); (try (refine gate_guard (by rfl) ?_; dsimp only)); refine box_event ?hg (N := 5) ?hd (cs := #[.int .i64 0, .int .i64 0]) (t := 112) ?hr ?_; (case hd => rfl); (case hg => rfl); (case hr => first | (go_simp; done) | (go_simp; rfl)); intro gb232 hg w74 hbox hb; have n0_ := bkB BK228 hb; have n1_ := Aside0.mk (below_step bw hb); have n2_ := Aside0.mk (hbox); have n3_ := Aside0.mk ((by rw [hg]; exact (below_size bw) : w.heap.size ≤ gb232)); have n4_ := Aside0.mk ((by rw [hg]; exact (below_size bw) : w.heap.size ≤ gb232)); have n5_ := Aside0.mk ((by rw [hg]; exact Nat.ne_of_lt (blk_lt (g := gb228) (o := .cells #[.slice A0_0 l0_0.length c0_0, .slice A0_1 l0_1.length c0_1, .slice (some ad231) l0_2.length c0_2] 73 (0, 0)) (bk BK228)) : gb228 ≠ gb232)); have n6_ := Aside0.mk ((by rw [hg]; exact Nat.ne_of_gt (blk_lt (g := gb228) (o := .cells #[.slice A0_0 l0_0.length c0_0, .slice A0_1 l0_1.length c0_1, .slice (some ad231) l0_2.length c0_2] 73 (0, 0)) (bk BK228)) : gb232 ≠ gb228)); clear BK228 HB; have BK228 := n0_; have HB := n1_; have BK232 := n2_; have GW232 := n3_; have GE232 := n4_; have NB228_232 := n5_; have NB232_228 := n6_; clear n0_ n1_ n2_ n3_ n4_ n5_ n6_; clear hb hbox hg; have hnb75 := NB232_228.out; have hnc75 := NB228_232.out; have hcz76_0 : w74.cell? ⟨gb232, 0, none⟩ = some (.int .i64 0) := (blk_cell BK232.out 0).trans rfl; have hcz76_1 : w74.cell? ⟨gb232, 1, none⟩ = some (.int .i64 0) := (blk_cell BK232.out 1).trans rfl; have hfz76_0 := blk_frozen BK232.out 0; have hfz76_1 := blk_frozen BK232.out 1))
                   have n0_ : Aside0 (((w74.setCell ⟨gb232, 0, none⟩ (.int .i64 ((rd_T112 l0_2 x53_3).f0))).setCell ⟨gb232, 1, none⟩ (.int .i64 ((rd_T112 l0_2 x53_3).f1))).heap[gb228]? = some (.cells #[.slice A0_0 l0_0.length c0_0, .slice A0_1 l0_1.length c0_1, .slice (some ad231) l0_2.length c0_2] 73 (0, 0))) := ⟨by (with_reducible repeat (first | refine blk_drewN ?_ _ | refine blk_drew ?_ | refine blk_alloc ?_ _)); refine blk_far ?_ NB228_232.out _; (with_reducible repeat (first | refine blk_drewN ?_ _ | refine blk_drew ?_ | refine blk_alloc ?_ _)); refine blk_far ?_ NB228_232.out _; (with_reducible repeat (first | refine blk_drewN ?_ _ | refine blk_drew ?_ | refine blk_alloc ?_ _)); exact BK228.out⟩
                   have n1_ : Aside0 (((w74.setCell ⟨gb232, 0, none⟩ (.int .i64 ((rd_T112 l0_2 x53_3).f0))).setCell ⟨gb232, 1, none⟩ (.int .i64 ((rd_T112 l0_2 x53_3).f1))).heap[gb232]? = some (.cells #[.int .i64 ((rd_T112 l0_2 x53_3).f0), .int .i64 ((rd_T112 l0_2 x53_3).f1)] 112 (0, 0))) := ⟨by (with_reducible repeat (first | refine blk_drewN ?_ _ | refine blk_drew ?_ | refine blk_alloc ?_ _)); refine blk_put (cs := #[.int .i64 ((rd_T112 l0_2 x53_3).f0), .int .i64 0]) ?_ 1 _ rfl; (with_reducible repeat (first | refine blk_drewN ?_ _ | refine blk_drew ?_ | refine blk_alloc ?_ _)); refine blk_put (cs := #[.int .i64 0, .int .i64 0]) ?_ 0 _ rfl; (with_reducible repeat (first | refine blk_drewN ?_ _ | refine blk_drew ?_ | refine blk_alloc ?_ _)); exact BK232.out⟩
                   have n2_ : Aside0 (Below w.heap.size w ((w74.setCell ⟨gb232, 0, none⟩ (.int .i64 ((rd_T112 l0_2 x53_3).f0))).setCell ⟨gb232, 1, none⟩ (.int .i64 ((rd_T112 l0_2 x53_3).f1)))) := ⟨bw⟩
                   (try clear BK228)
                   (try clear BK232)
                   (try clear HB)
                   generalize ((w74.setCell ⟨gb232, 0, none⟩ (.int .i64 ((rd_T112 l0_2 x53_3).f0))).setCell ⟨gb232, 1, none⟩ (.int .i64 ((rd_T112 l0_2 x53_3).f1))) = w77 at n0_ n1_ n2_ ⊢
                   have BK228 := n0_
                   have BK232 := n1_
                   have HB := n2_
                   clear n0_ n1_ n2_
                   have n0_ := Aside0.mk (blk_drew BK228.out)
                   have n1_ := Aside0.mk (blk_drew BK232.out)
                   have n2_ := Aside0.mk (below_drew1 HB.out)
                   clear BK228
                   clear BK232
                   clear HB
                   have BK228 := n0_
                   have BK232 := n1_
                   have HB := n2_
                   clear n0_ n1_ n2_
                   have p233 : 0 ≤ (((rd_T112 l0_2 x53_3).f1) : Int) := of_decide_eq_true (by first | (with_reducible assumption) | assumption)
                   have q233 : ((rd_T112 l0_2 x53_3).f1) < (l0_1.length : Int) := of_decide_eq_true (by first | (with_reducible assumption) | assumption)
                   obtain ⟨ad233, e233, hx233_0⟩ := Kd.at_bool HR0_1.out ((rd_T112 l0_2 x53_3).f1) p233 q233
                   have hw233_0 := hx233_0
                   (try rw [← Nbq54.out] at hx233_0)
                   (try rw [← Nbq54.out] at hw233_0)
                   cases e233
                   replace hx233_0 := (HB.out.cell (World.block_lt_of_cell? w _ hx233_0)).trans hx233_0
                   replace p233 := eq_true p233
                   replace q233 := eq_true q233
                   refine start_ (n := 38) (S := fun w' => w'.cell? ⟨gb232, 0, none⟩ = some (.int .i64 ((rd_T112 l0_2 x53_3).f0)) ∧ w'.cell? ⟨gb232, 1, none⟩ = some (.int .i64 ((rd_T112 l0_2 x53_3).f1)) ∧ w'.cell? ⟨gb228, 0, none⟩ = some (.slice A0_0 l0_0.length c0_0) ∧ w'.cell? ⟨gb228, 1, none⟩ = some (.slice (some ad233) l0_1.length c0_1) ∧ w'.cell? ⟨gb228, 2, none⟩ = some (.slice (some ad231) l0_2.length c0_2) ∧ w'.cell? (ad233.add (((rd_T112 l0_2 x53_3).f1)).toNat) = some (.bool false)) (ds := []) (bz 38 0) (by kernel_rfl) rfl rfl ⟨(blk_cell BK232.out 0).trans rfl, (blk_cell BK232.out 1).trans rfl, (blk_cell BK228.out 0).trans rfl, (blk_cell BK228.out 1).trans rfl, (blk_cell BK228.out 2).trans rfl, ((HB.out.cell (World.block_lt_of_cell? w _ hw233_0)).trans hw233_0)⟩ (fun hHeld => ?_); refine with_tabW impl_WorkValid.tab12 impl_WorkValid.bits12 (fun HT_ HW_ => ?_)
                   generalize w77.drew = w78 at BK228 BK232 HB hx233_0 hHeld ⊢
                   refine pure_ (i := 0) (N := some 58) (v := ?_) (a' := ?_) (bz 38 1) rfl rfl (any_of HT_.out (by kernel_rfl)) (fun _ _ _ h => h) (Or.inl ⟨by rfl, ?_⟩) ?_ ?_
                   rotate_left
                   ·intro w'
                    go_simp
                    with_reducible rfl
                   rotate_left
                   ·simp only [Act.put, List.setIfInBounds_toArray, List.set_cons_zero, List.set_cons_succ, i64_w, i32_w]
                    rfl
                   refine take_ (i := 1) (N := some 59) (v := ?_) (a' := ?_) (bz 38 3) rfl rfl (take_ofW HT_.out HW_.out (by kernel_rfl)) (fun _ _ _ h => h) (Or.inl ⟨by rfl, ?_⟩) hHeld ?_ ?_
                   rotate_left
                   ·rintro w' ⟨s0, s1, s2, s3, s4, s5⟩
                    go_simp
                    with_reducible rfl
                   rotate_left
                   ·simp only [Act.put, List.setIfInBounds_toArray, List.set_cons_zero, List.set_cons_succ, i64_w, i32_w]
                    rfl
                   refine pure_ (i := 2) (N := some 60) (v := ?_) (a' := ?_) (bz 38 7) rfl rfl (any_of HT_.out (by kernel_rfl)) (fun _ _ _ h => h) (Or.inl ⟨by rfl, ?_⟩) ?_ ?_
                   rotate_left
                   ·intro w'
                    go_simp
                    with_reducible rfl
                   rotate_left
                   ·simp only [Act.put, List.setIfInBounds_toArray, List.set_cons_zero, List.set_cons_succ, i64_w, i32_w]
                    rfl
                   refine pure_ (i := 3) (N := some 61) (v := ?_) (a' := ?_) (bz 38 15) rfl rfl (any_of HT_.out (by kernel_rfl)) (fun _ _ _ h => h) (Or.inl ⟨by rfl, ?_⟩) ?_ ?_
                   rotate_left
                   ·intro w'
                    go_simp
                    with_reducible rfl
                   rotate_left
                   ·simp only [Act.put, List.setIfInBounds_toArray, List.set_cons_zero, List.set_cons_succ, i64_w, i32_w]
                    rfl
                   refine pure_ (i := 4) (N := some 62) (v := ?_) (a' := ?_) (bz 38 31) rfl rfl (any_of HT_.out (by kernel_rfl)) (fun _ _ _ h => h) (Or.inl ⟨by rfl, ?_⟩) ?_ ?_
                   rotate_left
                   ·intro w'
                    go_simp
                    with_reducible rfl
                   rotate_left
                   ·simp only [Act.put, List.setIfInBounds_toArray, List.set_cons_zero, List.set_cons_succ, i64_w, i32_w]
                    rfl
                   refine take_ (i := 5) (N := some 63) (v := ?_) (a' := ?_) (bz 38 63) rfl rfl (take_ofW HT_.out HW_.out (by kernel_rfl)) (fun _ _ _ h => h) (Or.inl ⟨by rfl, ?_⟩) hHeld ?_ ?_
                   rotate_left
                   ·rintro w' ⟨s0, s1, s2, s3, s4, s5⟩
                    go_simp
                    with_reducible rfl
                   rotate_left
                   ·simp only [Act.put, List.setIfInBounds_toArray, List.set_cons_zero, List.set_cons_succ, i64_w, i32_w]
                    rfl
                   refine pure_ (i := 6) (N := some 64) (v := ?_) (a' := ?_) (bz 38 127) rfl rfl (any_of HT_.out (by kernel_rfl)) (fun _ _ _ h => h) (Or.inl ⟨by rfl, ?_⟩) ?_ ?_
                   rotate_left
                   ·intro w'
                    go_simp
                    with_reducible rfl
                   rotate_left
                   ·simp only [Act.put, List.setIfInBounds_toArray, List.set_cons_zero, List.set_cons_succ, i64_w, i32_w]
                    rfl
                   refine pure_ (i := 7) (N := some 65) (v := ?_) (a' := ?_) (bz 38 255) rfl rfl (any_of HT_.out (by kernel_rfl)) (fun _ _ _ h => h) (Or.inl ⟨by rfl, ?_⟩) ?_ ?_
                   rotate_left
                   ·intro w'
                    go_simp
                    with_reducible rfl
                   rotate_left
                   ·simp only [Act.put, List.setIfInBounds_toArray, List.set_cons_zero, List.set_cons_succ, i64_w, i32_w]
                    rfl
                   refine pure_ (i := 8) (N := some 66) (v := ?_) (a' := ?_) (bz 38 511) rfl rfl (any_of HT_.out (by kernel_rfl)) (fun _ _ _ h => h) (Or.inl ⟨by rfl, ?_⟩) ?_ ?_
                   rotate_left
                   ·intro w'
                    go_simp
                    with_reducible rfl
                   rotate_left
                   ·simp only [Act.put, List.setIfInBounds_toArray, List.set_cons_zero, List.set_cons_succ, i64_w, i32_w]
                    rfl
                   refine pure_ (i := 9) (N := some 67) (v := ?_) (a' := ?_) (bz 38 1023) rfl rfl (any_of HT_.out (by kernel_rfl)) (fun _ _ _ h => h) (Or.inl ⟨by rfl, ?_⟩) ?_ ?_
                   rotate_left
                   ·intro w'
                    go_simp
                    with_reducible rfl
                   rotate_left
                   ·simp only [Act.put, List.setIfInBounds_toArray, List.set_cons_zero, List.set_cons_succ, i64_w, i32_w]
                    rfl
                   refine take_ (i := 10) (N := some 68) (v := ?_) (a' := ?_) (bz 38 2047) rfl rfl (take_ofW HT_.out HW_.out (by kernel_rfl)) (fun _ _ _ h => h) (Or.inl ⟨by rfl, ?_⟩) hHeld ?_ ?_
                   rotate_left
                   ·rintro w' ⟨s0, s1, s2, s3, s4, s5⟩
                    go_simp
                    with_reducible rfl
                   rotate_left
                   ·simp only [Act.put, List.setIfInBounds_toArray, List.set_cons_zero, List.set_cons_succ, i64_w, i32_w]
                    rfl
                   refine pure_ (i := 11) (N := some 69) (v := ?_) (a' := ?_) (bz 38 4095) rfl rfl (any_of HT_.out (by kernel_rfl)) (fun _ _ _ h => h) (Or.inl ⟨by rfl, ?_⟩) ?_ ?_
                   rotate_left
                   ·intro w'
                    go_simp
                    with_reducible rfl
                   rotate_left
                   ·simp only [Act.put, List.setIfInBounds_toArray, List.set_cons_zero, List.set_cons_succ, i64_w, i32_w]
                    rfl
                   refine pure_ (i := 12) (N := some 70) (v := ?_) (a' := ?_) (bz 38 8191) rfl rfl (any_of HT_.out (by kernel_rfl)) (fun _ _ _ h => h) (Or.inl ⟨by rfl, ?_⟩) ?_ ?_
                   rotate_left
                   ·intro w'
                    go_simp
                    with_reducible rfl
                   rotate_left
                   ·simp only [Act.put, List.setIfInBounds_toArray, List.set_cons_zero, List.set_cons_succ, i64_w, i32_w]
                    rfl
                   refine pure_ (i := 13) (N := some 71) (v := ?_) (a' := ?_) (bz 38 16383) rfl rfl (any_of HT_.out (by kernel_rfl)) (fun _ _ _ h => h) (Or.inl ⟨by rfl, ?_⟩) ?_ ?_
                   rotate_left
                   ·intro w'
                    go_simp
                    with_reducible rfl
                   rotate_left
                   ·simp only [Act.put, List.setIfInBounds_toArray, List.set_cons_zero, List.set_cons_succ, i64_w, i32_w]
                    rfl
                   refine pure_ (i := 14) (N := some 72) (v := ?_) (a' := ?_) (bz 38 32767) rfl rfl (any_of HT_.out (by kernel_rfl)) (fun _ _ _ h => h) (Or.inl ⟨by rfl, ?_⟩) ?_ ?_
                   rotate_left
                   ·intro w'
                    go_simp
                    with_reducible rfl
                   rotate_left
                   ·simp only [Act.put, List.setIfInBounds_toArray, List.set_cons_zero, List.set_cons_succ, i64_w, i32_w]
                    rfl
                   refine pure_ (i := 16) (N := some 74) (v := ?_) (a' := ?_) (bz 38 98303) rfl rfl (any_of HT_.out (by kernel_rfl)) (fun _ _ _ h => h) (Or.inl ⟨by rfl, ?_⟩) ?_ ?_
                   rotate_left
                   ·intro w'
                    go_simp
                    with_reducible rfl
                   rotate_left
                   ·simp only [Act.put, List.setIfInBounds_toArray, List.set_cons_zero, List.set_cons_succ, i64_w, i32_w]
                    rfl
                   refine take_ (i := 15) (N := some 73) (v := ?_) (a' := ?_) (bz 38 131071) rfl rfl (take_ofW HT_.out HW_.out (by kernel_rfl)) (fun _ _ _ h => h) (Or.inl ⟨by rfl, ?_⟩) hHeld ?_ ?_
                   rotate_left
                   ·rintro w' ⟨s0, s1, s2, s3, s4, s5⟩
                    go_simp
                    with_reducible rfl
                   rotate_left
                   ·simp only [Act.put, List.setIfInBounds_toArray, List.set_cons_zero, List.set_cons_succ, i64_w, i32_w]
                    rfl
                   refine take_ (i := 17) (N := some 75) (v := ?_) (a' := ?_) (bz 38 262143) rfl rfl (take_ofW HT_.out HW_.out (by kernel_rfl)) (fun _ _ _ h => h) (Or.inl ⟨by rfl, ?_⟩) hHeld ?_ ?_
                   rotate_left
                   ·rintro w' ⟨s0, s1, s2, s3, s4, s5⟩
                    go_simp
                    with_reducible rfl
                   rotate_left
                   ·simp only [Act.put, List.setIfInBounds_toArray, List.set_cons_zero, List.set_cons_succ, i64_w, i32_w]
                    rfl
                   refine pure_ (i := 18) (N := some 76) (v := ?_) (a' := ?_) (bz 38 524287) rfl rfl (any_of HT_.out (by kernel_rfl)) (fun _ _ _ h => h) (Or.inl ⟨by rfl, ?_⟩) ?_ ?_
                   rotate_left
                   ·intro w'
                    go_simp
                    with_reducible rfl
                   rotate_left
                   ·simp only [Act.put, List.setIfInBounds_toArray, List.set_cons_zero, List.set_cons_succ, i64_w, i32_w]
                    rfl
                   refine pure_ (i := 19) (N := some 77) (v := ?_) (a' := ?_) (bz 38 1048575) rfl rfl (any_of HT_.out (by kernel_rfl)) (fun _ _ _ h => h) (Or.inl ⟨by rfl, ?_⟩) ?_ ?_
                   rotate_left
                   ·intro w'
                    go_simp
                    with_reducible rfl
                   rotate_left
                   ·simp only [Act.put, List.setIfInBounds_toArray, List.set_cons_zero, List.set_cons_succ, i64_w, i32_w]
                    rfl
                   refine pure_ (i := 20) (N := some 78) (v := ?_) (a' := ?_) (bz 38 2097151) rfl rfl (any_of HT_.out (by kernel_rfl)) (fun _ _ _ h => h) (Or.inl ⟨by rfl, ?_⟩) ?_ ?_
                   rotate_left
                   ·intro w'
                    go_simp
                    with_reducible rfl
                   rotate_left
                   ·simp only [Act.put, List.setIfInBounds_toArray, List.set_cons_zero, List.set_cons_succ, i64_w, i32_w]
                    rfl
                   refine pure_ (i := 21) (N := some 79) (v := ?_) (a' := ?_) (bz 38 4194303) rfl rfl (any_of HT_.out (by kernel_rfl)) (fun _ _ _ h => h) (Or.inl ⟨by rfl, ?_⟩) ?_ ?_
                   rotate_left
                   ·intro w'
                    go_simp
                    with_reducible rfl
                   rotate_left
                   ·simp only [Act.put, List.setIfInBounds_toArray, List.set_cons_zero, List.set_cons_succ, i64_w, i32_w]
                    rfl
                   refine pure_ (i := 22) (N := some 80) (v := ?_) (a' := ?_) (bz 38 8388607) rfl rfl (any_of HT_.out (by kernel_rfl)) (fun _ _ _ h => h) (Or.inl ⟨by rfl, ?_⟩) ?_ ?_
                   rotate_left
                   ·intro w'
                    go_simp
                    with_reducible rfl
                   rotate_left
                   ·simp only [Act.put, List.setIfInBounds_toArray, List.set_cons_zero, List.set_cons_succ, i64_w, i32_w]
                    rfl
                   refine pure_ (i := 24) (N := some 82) (v := ?_) (a' := ?_) (bz 38 25165823) rfl rfl (any_of HT_.out (by kernel_rfl)) (fun _ _ _ h => h) (Or.inl ⟨by rfl, ?_⟩) ?_ ?_
                   rotate_left
                   ·intro w'
                    go_simp
                    with_reducible rfl
                   rotate_left
                   ·simp only [Act.put, List.setIfInBounds_toArray, List.set_cons_zero, List.set_cons_succ, i64_w, i32_w]
                    rfl
                   refine take_ (i := 23) (N := some 81) (v := ?_) (a' := ?_) (bz 38 33554431) rfl rfl (take_ofW HT_.out HW_.out (by kernel_rfl)) (fun _ _ _ h => h) (Or.inl ⟨by rfl, ?_⟩) hHeld ?_ ?_
                   rotate_left
                   ·rintro w' ⟨s0, s1, s2, s3, s4, s5⟩
                    go_simp
                    with_reducible rfl
                   rotate_left
                   ·simp only [Act.put, List.setIfInBounds_toArray, List.set_cons_zero, List.set_cons_succ, i64_w, i32_w]
                    rfl
                   refine take_ (i := 25) (N := some 83) (v := ?_) (a' := ?_) (bz 38 67108863) rfl rfl (take_ofW HT_.out HW_.out (by kernel_rfl)) (fun _ _ _ h => h) (Or.inl ⟨by rfl, ?_⟩) hHeld ?_ ?_
                   rotate_left
                   ·rintro w' ⟨s0, s1, s2, s3, s4, s5⟩
                    go_simp
                    with_reducible rfl
                   rotate_left
                   ·simp only [Act.put, List.setIfInBounds_toArray, List.set_cons_zero, List.set_cons_succ, i64_w, i32_w]
                    rfl
                   refine pure_ (i := 26) (N := some 84) (v := ?_) (a' := ?_) (bz 38 134217727) rfl rfl (any_of HT_.out (by kernel_rfl)) (fun _ _ _ h => h) (Or.inl ⟨by rfl, ?_⟩) ?_ ?_
                   rotate_left
                   ·intro w'
                    go_simp
                    with_reducible rfl
                   rotate_left
                   ·simp only [Act.put, List.setIfInBounds_toArray, List.set_cons_zero, List.set_cons_succ, i64_w, i32_w]
                    rfl
                   refine take_ (i := 27) (N := some 85) (v := ?_) (a' := ?_) (bz 38 268435455) rfl rfl (take_ofW HT_.out HW_.out (by kernel_rfl)) (fun _ _ _ h => h) (Or.inl ⟨by rfl, ?_⟩) hHeld ?_ ?_
                   rotate_left
                   ·rintro w' ⟨s0, s1, s2, s3, s4, s5⟩
                    go_simp
                    with_reducible rfl
                   rotate_left
                   ·simp only [Act.put, List.setIfInBounds_toArray, List.set_cons_zero, List.set_cons_succ, i64_w, i32_w]
                    rfl
                   refine pure_ (i := 28) (N := some 86) (v := ?_) (a' := ?_) (bz 38 536870911) rfl rfl (any_of HT_.out (by kernel_rfl)) (fun _ _ _ h => h) (Or.inl ⟨by rfl, ?_⟩) ?_ ?_
                   rotate_left
                   ·intro w'
                    go_simp
                    with_reducible rfl
                   rotate_left
                   ·simp only [Act.put, List.setIfInBounds_toArray, List.set_cons_zero, List.set_cons_succ, i64_w, i32_w]
                    rfl
                   refine pure_ (i := 29) (N := some 87) (v := ?_) (a' := ?_) (bz 38 1073741823) rfl rfl (any_of HT_.out (by kernel_rfl)) (fun _ _ _ h => h) (Or.inl ⟨by rfl, ?_⟩) ?_ ?_
                   rotate_left
                   ·intro w'
                    go_simp
                    with_reducible rfl
                   rotate_left
                   ·simp only [Act.put, List.setIfInBounds_toArray, List.set_cons_zero, List.set_cons_succ, i64_w, i32_w]
                    rfl
                   refine pure_ (i := 30) (N := some 88) (v := ?_) (a' := ?_) (bz 38 2147483647) rfl rfl (any_of HT_.out (by kernel_rfl)) (fun _ _ _ h => h) (Or.inl ⟨by rfl, ?_⟩) ?_ ?_
                   rotate_left
                   ·intro w'
                    go_simp
                    with_reducible rfl
                   rotate_left
                   ·simp only [Act.put, List.setIfInBounds_toArray, List.set_cons_zero, List.set_cons_succ, i64_w, i32_w]
                    rfl
                   refine pure_ (i := 31) (N := some 89) (v := undef) (a' := ?_) (bz 38 4294967295) rfl rfl (any_of HT_.out (by kernel_rfl)) (fun _ _ _ h => h) (Or.inr ⟨by rfl, rfl⟩) ?_ ?_
                   rotate_left
                   ·simp only [Act.put, List.setIfInBounds_toArray, List.set_cons_zero, List.set_cons_succ, i64_w, i32_w]
                    rfl
                   refine pure_ (i := 32) (N := some 90) (v := undef) (a' := ?_) (bz 38 8589934591) rfl rfl (any_of HT_.out (by kernel_rfl)) (fun _ _ _ h => h) (Or.inr ⟨by rfl, rfl⟩) ?_ ?_
                   rotate_left
                   ·simp only [Act.put, List.setIfInBounds_toArray, List.set_cons_zero, List.set_cons_succ, i64_w, i32_w]
                    rfl
                   refine pure_ (i := 33) (N := some 91) (v := undef) (a' := ?_) (bz 38 17179869183) rfl rfl (any_of HT_.out (by kernel_rfl)) (fun _ _ _ h => h) (Or.inr ⟨by rfl, rfl⟩) ?_ ?_
                   rotate_left
                   ·simp only [Act.put, List.setIfInBounds_toArray, List.set_cons_zero, List.set_cons_succ, i64_w, i32_w]
                    rfl
                   refine pure_ (i := 34) (N := some 92) (v := undef) (a' := ?_) (bz 38 34359738367) rfl rfl (any_of HT_.out (by kernel_rfl)) (fun _ _ _ h => h) (Or.inr ⟨by rfl, rfl⟩) ?_ ?_
                   rotate_left
                   ·simp only [Act.put, List.setIfInBounds_toArray, List.set_cons_zero, List.set_cons_succ, i64_w, i32_w]
                    rfl
                   refine pure_ (i := 35) (N := some 93) (v := undef) (a' := ?_) (bz 38 68719476735) rfl rfl (any_of HT_.out (by kernel_rfl)) (fun _ _ _ h => h) (Or.inr ⟨by rfl, rfl⟩) ?_ ?_
                   rotate_left
                   ·simp only [Act.put, List.setIfInBounds_toArray, List.set_cons_zero, List.set_cons_succ, i64_w, i32_w]
                    rfl
                   refine pure_ (i := 36) (N := some 94) (v := undef) (a' := ?_) (bz 38 137438953471) rfl rfl (any_of HT_.out (by kernel_rfl)) (fun _ _ _ h => h) (Or.inr ⟨by rfl, rfl⟩) ?_ ?_
                   rotate_left
                   ·simp only [Act.put, List.setIfInBounds_toArray, List.set_cons_zero, List.set_cons_succ, i64_w, i32_w]
                    rfl
                   refine pure_ (i := 37) (N := some 95) (v := ?_) (a' := ?_) (bz 38 274877906943) rfl rfl (any_of HT_.out (by kernel_rfl)) (fun _ _ _ h => h) (Or.inl ⟨by rfl, ?_⟩) ?_ ?_
                   rotate_left
                   ·intro w'
                    go_simp
                    with_reducible rfl
                   rotate_left
                   ·simp only [Act.put, List.setIfInBounds_toArray, List.set_cons_zero, List.set_cons_succ, i64_w, i32_w]
                    rfl
                   refine done_ (done_of HT_.out (by kernel_rfl)) ?_
                   try go_wp2
                   go_ret
                   exact ⟨by first | rfl | (simp [errW_none, errW_some] <;> rfl) | (simp [*, errW_none, errW_some] <;> rfl), bw⟩
                 ·rw [if_neg c53] at H
                  exact absurd H (by simp)
                ·rw [if_neg c52] at H
                 exact absurd H (by simp)
           ·rw [if_neg c27] at H
            exact absurd H (by simp)
          ·rw [if_neg c26] at H
           exact absurd H (by simp)
         ·rw [if_neg c25] at H
          have c25b0 : decide (x53_3 < (l0_2.length : Int)) = false := decide_eq_false c25
          clear c25
          obtain rfl := Option.some.inj H
          go_wp2
          go_ret
          exact ⟨by first | rfl | (simp [errW_none, errW_some] <;> rfl) | (simp [*, errW_none, errW_some] <;> rfl), bw⟩

end Go.Proofs.Ytgoiihfojhpcmaa.G
