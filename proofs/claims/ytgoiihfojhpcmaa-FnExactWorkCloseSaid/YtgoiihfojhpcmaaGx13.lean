-- Printed by wip/gen.py of this session's repo, over the kit's print.py. Not trusted: Lean checks it.
import Derived.Test.YtgoiihfojhpcmaaGx0
import Derived.Test.YtgoiihfojhpcmaaSq
import Derived.Test.YtgoiihfojhpcmaaGx6
namespace Go.Proofs.Ytgoiihfojhpcmaa.G
open Go.RowKit Go.Proofs.YtgoiihfojhpcmaaW.PrintWords Go.Proofs.YtgoiihfojhpcmaaW.PrintLast Go.Proofs.YtgoiihfojhpcmaaW.PrintMore Go.Proofs.Ytgoiihfojhpcmaa.Sq
attribute [local go_sem] max2_int min2_int max_two min_two max_three min_three max_four min_four   -- for this text's walks alone
set_option linter.unusedVariables false
set_option linter.unusedSimpArgs false

/-! ### spec_WorkClose: function 49 -/
mutual
def spec_WorkClose.l0 : Nat → List (S129) → Int → List Bool → List Bool → List (S112) → Option ((List (S129)))
 | 0, _, _, _, _, _ => none
 | k + 1, x3, x4, x374000, x374001, x374002 => if x4 < (x374002.length : Int) then (if 0 ≤ x4 then (if x3.length < 5864062014805 then (spec_WorkClose.l0 k (x3 ++ [(⟨5, (rd_T112 x374002 x4).f1, (rd_T112 x374002 x4).f0⟩ : S129)]) (wrap64 (x4 + 1)) x374000 x374001 x374002) else (none)) else (none)) else (spec_WorkClose.l1 k x3 0 x374000 x374001 x374002)
def spec_WorkClose.l1 : Nat → List (S129) → Int → List Bool → List Bool → List (S112) → Option ((List (S129)))
 | 0, _, _, _, _, _ => none
 | k + 1, x3, x5, x374000, x374001, x374002 => if x5 < (x374000.length : Int) then (if 0 ≤ x5 then (if x5 < (x374001.length : Int) then (if rdOf false x374001 x5 = true then (if x3.length < 5864062014805 then (spec_WorkClose.l1 k (x3 ++ [(⟨3, x5, 0⟩ : S129)]) (wrap64 (x5 + 1)) x374000 x374001 x374002) else (none)) else (spec_WorkClose.l1 k x3 (wrap64 (x5 + 1)) x374000 x374001 x374002)) else (none)) else (none)) else (spec_WorkClose.l2 k x3 0 x374000 x374001 x374002)
def spec_WorkClose.l2 : Nat → List (S129) → Int → List Bool → List Bool → List (S112) → Option ((List (S129)))
 | 0, _, _, _, _, _ => none
 | k + 1, x3, x6, x374000, x374001, x374002 => if x6 < (x374000.length : Int) then (if 0 ≤ x6 then (if rdOf false x374000 x6 = true then (spec_WorkClose.l2 k x3 (wrap64 (x6 + 1)) x374000 x374001 x374002) else (if x3.length < 5864062014805 then (spec_WorkClose.l2 k (x3 ++ [(⟨0, x6, 0⟩ : S129)]) (wrap64 (x6 + 1)) x374000 x374001 x374002) else (none))) else (none)) else (some x3)
end
def spec_WorkClose.f (k : Nat) (l0_0 : List Bool) (l0_1 : List Bool) (l0_2 : List (S112)) : Option ((List (S129))) := (some (([] : List (S129)) : List (S129))).bind fun y374 => ((spec_WorkValid.f k l0_0 l0_1 l0_2).bind fun t377 => (if t377 = true then (spec_WorkClose.l0 k y374 0 l0_0 l0_1 l0_2) else (some y374)))
theorem spec_WorkClose.mono_l : ∀ k, (∀ y0 y1 y2 y3 y4, LeO (spec_WorkClose.l0 k y0 y1 y2 y3 y4) (spec_WorkClose.l0 (k + 1) y0 y1 y2 y3 y4)) ∧ (∀ y0 y1 y2 y3 y4, LeO (spec_WorkClose.l1 k y0 y1 y2 y3 y4) (spec_WorkClose.l1 (k + 1) y0 y1 y2 y3 y4)) ∧ (∀ y0 y1 y2 y3 y4, LeO (spec_WorkClose.l2 k y0 y1 y2 y3 y4) (spec_WorkClose.l2 (k + 1) y0 y1 y2 y3 y4))
 | 0 => ⟨fun _ _ _ _ _ r h => by simp [spec_WorkClose.l0] at h, fun _ _ _ _ _ r h => by simp [spec_WorkClose.l1] at h, fun _ _ _ _ _ r h => by simp [spec_WorkClose.l2] at h⟩
 | k + 1 => by
  obtain ⟨ih0, ih1, ih2⟩ := spec_WorkClose.mono_l k
  refine ⟨?_, ?_, ?_⟩
  ·intro y0 y1 y2 y3 y4
   unfold spec_WorkClose.l0
   repeat' first
   | (with_reducible exact ih0 _ _ _ _ _)
   | (with_reducible exact ih1 _ _ _ _ _)
   | (with_reducible exact ih2 _ _ _ _ _)
   | (with_reducible exact spec_WorkValid.mono _ _ _ _)
   | (with_reducible exact LeO.refl _)
   | (with_reducible exact LeO.none _)
   | (with_reducible refine LeO.ite ?_ ?_)
   | (with_reducible refine LeO.bind ?_ (fun _ => ?_))
   | exact ih0 _ _ _ _ _
   | exact ih1 _ _ _ _ _
   | exact ih2 _ _ _ _ _
   | exact spec_WorkValid.mono _ _ _ _
   | exact LeO.none _
   | refine LeO.ite ?_ ?_
   | refine LeO.bind ?_ (fun _ => ?_)
  ·intro y0 y1 y2 y3 y4
   unfold spec_WorkClose.l1
   repeat' first
   | (with_reducible exact ih0 _ _ _ _ _)
   | (with_reducible exact ih1 _ _ _ _ _)
   | (with_reducible exact ih2 _ _ _ _ _)
   | (with_reducible exact spec_WorkValid.mono _ _ _ _)
   | (with_reducible exact LeO.refl _)
   | (with_reducible exact LeO.none _)
   | (with_reducible refine LeO.ite ?_ ?_)
   | (with_reducible refine LeO.bind ?_ (fun _ => ?_))
   | exact ih0 _ _ _ _ _
   | exact ih1 _ _ _ _ _
   | exact ih2 _ _ _ _ _
   | exact spec_WorkValid.mono _ _ _ _
   | exact LeO.none _
   | refine LeO.ite ?_ ?_
   | refine LeO.bind ?_ (fun _ => ?_)
  ·intro y0 y1 y2 y3 y4
   unfold spec_WorkClose.l2
   repeat' first
   | (with_reducible exact ih0 _ _ _ _ _)
   | (with_reducible exact ih1 _ _ _ _ _)
   | (with_reducible exact ih2 _ _ _ _ _)
   | (with_reducible exact spec_WorkValid.mono _ _ _ _)
   | (with_reducible exact LeO.refl _)
   | (with_reducible exact LeO.none _)
   | (with_reducible refine LeO.ite ?_ ?_)
   | (with_reducible refine LeO.bind ?_ (fun _ => ?_))
   | exact ih0 _ _ _ _ _
   | exact ih1 _ _ _ _ _
   | exact ih2 _ _ _ _ _
   | exact spec_WorkValid.mono _ _ _ _
   | exact LeO.none _
   | refine LeO.ite ?_ ?_
   | refine LeO.bind ?_ (fun _ => ?_)
theorem spec_WorkClose.mono : ∀ a0 a1 a2 k, LeO (spec_WorkClose.f k a0 a1 a2) (spec_WorkClose.f (k + 1) a0 a1 a2) := by
 intro a0 a1 a2 k
 obtain ⟨ih0, ih1, ih2⟩ := spec_WorkClose.mono_l k
 unfold spec_WorkClose.f
 repeat' first
   | (with_reducible exact ih0 _ _ _ _ _)
   | (with_reducible exact ih1 _ _ _ _ _)
   | (with_reducible exact ih2 _ _ _ _ _)
   | (with_reducible exact spec_WorkValid.mono _ _ _ _)
   | (with_reducible exact LeO.refl _)
   | (with_reducible exact LeO.none _)
   | (with_reducible refine LeO.ite ?_ ?_)
   | (with_reducible refine LeO.bind ?_ (fun _ => ?_))
   | exact ih0 _ _ _ _ _
   | exact ih1 _ _ _ _ _
   | exact ih2 _ _ _ _ _
   | exact spec_WorkValid.mono _ _ _ _
   | exact LeO.none _
   | refine LeO.ite ?_ ?_
   | refine LeO.bind ?_ (fun _ => ?_)
def spec_WorkClose.T7 : Bool × List (List Nat × List Nat) := (true, [([], []), ([], []), ([1], [1]), ([], []), ([2, 3], [2, 3]), ([4], [4]), ([5], [5]), ([], []), ([7], [7]), ([], []), ([8, 9], [8, 9]), ([10], [10]), ([11], [11]), ([6, 12], [6, 12]), ([13], [13]), ([0, 14], [0, 14]), ([15, 15, 0, 1, 2, 3, 4, 5, 6, 7, 8, 9, 10, 11, 12, 13, 14, 15], [0, 15])])
def spec_WorkClose.B7 : List Nat := [0, 0, 2, 0, 14, 30, 62, 0, 128, 0, 896, 1920, 3968, 8190, 16382, 32767, 65535]
theorem spec_WorkClose.tab7 : rtab .any (opsOf Try.f49 7) = spec_WorkClose.T7 := by kernel_rfl
theorem spec_WorkClose.bits7 : waitsOk spec_WorkClose.T7.2 spec_WorkClose.B7 = true := by kernel_rfl
set_option maxHeartbeats 8000000 in
set_option maxRecDepth 100000 in
theorem spec_WorkClose.calls (k : Nat) (A0_0 : Option Addr) (c0_0 : Nat) (l0_0 : List Bool) (A0_1 : Option Addr) (c0_1 : Nat) (l0_1 : List Bool) (A0_2 : Option Addr) (c0_2 : Nat) (l0_2 : List (S112)) (r : List (S129)) (w : World) (hr0_0 : Kd.C Kd.bool w A0_0 l0_0.length l0_0) (hc0_0 : l0_0.length ≤ c0_0) (hr0_1 : Kd.C Kd.bool w A0_1 l0_1.length l0_1) (hc0_1 : l0_1.length ≤ c0_1) (hr0_2 : Kd.C k112 w A0_2 l0_2.length l0_2) (hc0_2 : l0_2.length ≤ c0_2) (h : spec_WorkClose.f k l0_0 l0_1 l0_2 = some r) :
  Calls Try.prog 49 #[.agg #[.slice A0_0 l0_0.length c0_0, .slice A0_1 l0_1.length c0_1, .slice A0_2 l0_2.length c0_2]] w fun e w' => ∃ v0_ : Value, e = .returned (v0_) ∧ Kd.R k129 129 w' w.heap.size (fun _ => True) v0_ r ∧ Below w.heap.size w w' := by
 have hu73 := Try.underlying73
 have hu129 := Try.underlying129
 have HR0_0 := Aside0.mk hr0_0
 have HC0_0 := Aside0.mk hc0_0
 clear hr0_0 hc0_0
 have HR0_1 := Aside0.mk hr0_1
 have HC0_1 := Aside0.mk hc0_1
 clear hr0_1 hc0_1
 have HR0_2 := Aside0.mk hr0_2
 have HC0_2 := Aside0.mk hc0_2
 clear hr0_2 hc0_2
 have HB := Aside0.mk (Below.refl w.heap.size w)
 have H : ((some (([] : List (S129)) : List (S129))).bind fun y374 => ((spec_WorkValid.f k l0_0 l0_1 l0_2).bind fun t377 => (if t377 = true then (spec_WorkClose.l0 k y374 0 l0_0 l0_1 l0_2) else (some y374)))) = some r := h
 clear h
 obtain ⟨y374, hy374⟩ : ∃ y_ : List (S129), y_ = (([] : List (S129))) := ⟨_, rfl⟩
 replace H : ((spec_WorkValid.f k l0_0 l0_1 l0_2).bind fun t377 => (if t377 = true then (spec_WorkClose.l0 k y374 0 l0_0 l0_1 l0_2) else (some y374))) = some r := by first | (rw [hy374]; with_reducible exact H) | (have H2_ := (Option.bind_some _ _).symm.trans H; rw [hy374]; with_reducible exact H2_) | (have H2_ := (Option.bind_some _ _).symm.trans H; with_reducible exact H2_) | with_reducible exact H | (rw [hy374]; exact H) | exact H
 have Ny374 := Aside0.mk hy374
 clear hy374
 replace H := Option.bind_eq_some_iff.mp H
 obtain ⟨t377, A20, H⟩ := H
 replace H : (if t377 = true then (spec_WorkClose.l0 k y374 0 l0_0 l0_1 l0_2) else (some y374)) = some r := H
 have A2 := Aside0.mk A20
 clear A20
 by_cases c3 : t377 = true
 ·subst c3
  have H1 : (spec_WorkClose.l0 k y374 0 l0_0 l0_1 l0_2) = some r := by rw [if_pos rfl] at H; exact H
  clear H
  have H := H1
  clear H1
  have H' := Aside0.mk H
  clear H
  go_enter Try.func49, Try.ntmps49
  go_wp2_with (first | ((with_reducible refine gate_dst (N := 1) rfl ?_); refine box_event ?hg (N := 1) ?hd (cs := #[.slice A0_0 l0_0.length c0_0, .slice A0_1 l0_1.length c0_1, .slice A0_2 l0_2.length c0_2]) (t := 73) ?hr ?_; (case hd => rfl); (case hg => rfl); (case hr => first | (go_simp; done) | (go_simp; rfl)); intro gb373 hg w4 hbox hb; have n0_ := Aside0.mk (below_step bw hb); have n1_ := Aside0.mk (hbox); have n2_ := Aside0.mk ((by rw [hg]; exact (below_size bw) : w.heap.size ≤ gb373)); have n3_ := Aside0.mk ((by rw [hg]; exact (below_size bw) : w.heap.size ≤ gb373)); clear HB; have HB := n0_; have BK373 := n1_; have GW373 := n2_; have GE373 := n3_; clear n0_ n1_ n2_ n3_; clear hb hbox hg) | ((with_reducible refine gate_dst (N := 7) rfl ?_); refine Kd.R_lit k129 _ 129 ?hg (N := 7) ?hd (xs := ([] : List (S129))) (inner := []) (ok := fun _ => True) (okp := fun _ => True) ?hr ?hp (fun _ hk => hk) trivial (Below.refl _ _) (Nat.le_refl _) (by simp) ?_; (case hd => rfl); (case hg => rfl); (case hr => first | (go_simp; done) | (go_simp; rfl)); (case hp => exact (Reps.none _ _)); intro v375 w5 ho6 hb hg_ hnew_; clear hg_ hnew_; (first | rw [← Ny374.out] at ho6 | (simp only [Int.reduceToNat] at ho6; rw [← Ny374.out] at ho6)); have n0_ := Aside0.mk (Kd.R_lower ho6 (below_size bw)); have n1_ := bkB BK373 hb; have n2_ := Aside0.mk (below_step bw hb); clear BK373 HB; have HO376 := n0_; have BK373 := n1_; have HB := n2_; clear n0_ n1_ n2_; clear hb ho6; have hcz7_0 : w5.cell? ⟨gb373, 0, none⟩ = some (.slice A0_0 l0_0.length c0_0) := (blk_cell BK373.out 0).trans rfl; have hcz7_1 : w5.cell? ⟨gb373, 1, none⟩ = some (.slice A0_1 l0_1.length c0_1) := (blk_cell BK373.out 1).trans rfl; have hcz7_2 : w5.cell? ⟨gb373, 2, none⟩ = some (.slice A0_2 l0_2.length c0_2) := (blk_cell BK373.out 2).trans rfl; have hfz7_0 := blk_frozen BK373.out 0; have hfz7_1 := blk_frozen BK373.out 1; have hfz7_2 := blk_frozen BK373.out 2) | ((with_reducible refine gate_callee (f := 39) rfl ?_); refine goesL_ (some 9) rfl rfl Try.func39 (by kernel_rfl) rfl #[.agg #[.slice A0_0 l0_0.length c0_0, .slice A0_1 l0_1.length c0_1, .slice A0_2 l0_2.length c0_2]] rfl (by (try simp only [List.map_toArray, List.map_cons, List.map_nil]); first | done | rfl | (simp only [List.length_drop, List.length_take]; rfl)) ?_; (with_reducible refine (spec_WorkValid.calls k _ _ l0_0 _ _ l0_1 _ _ l0_2 true _ ?side1 ?side2 ?side3 ?side4 ?side5 ?side6 A2.out).mono ?_); (case side1 => exact cb HR0_0); (case side2 => exact HC0_0.out); (case side3 => exact cb HR0_1); (case side4 => exact HC0_1.out); (case side5 => exact cb HR0_2); (case side6 => exact HC0_2.out); rintro e w8 ⟨rfl, hb⟩; refine ⟨_, rfl, ?_⟩; have n0_ := rB HO376 hb; have n1_ := bkB BK373 hb; have n2_ := Aside0.mk (below_step bw hb); clear HO376 BK373 HB; have HO376 := n0_; have BK373 := n1_; have HB := n2_; clear n0_ n1_ n2_; (try clear hb); (try clear hb2); (try clear hk); (try clear hi)))
  go_loopg [3, 4] k (fun kq v3 v4 w' => ∃ (x3_1 : List (S129)) (x4_1 : Int), v4 = .int .i64 x4_1 ∧ Aside0 (spec_WorkClose.l0 kq x3_1 x4_1 l0_0 l0_1 l0_2 = some r) ∧ Aside0 (kq ≤ k) ∧ Aside0 (Kd.R k129 129 w' w.heap.size (fun _ => True) v3 x3_1) ∧ Aside0 (w'.heap[gb373]? = some (.cells #[(.slice A0_0 l0_0.length c0_0), (.slice A0_1 l0_1.length c0_1), (.slice A0_2 l0_2.length c0_2)] 73 (0, 0))) ∧ Aside0 (Below w.heap.size w w'))
  case atStart => exact ⟨(y374), (0), (by first | rfl | (simp; done) | (simp [*]; done)), H', ⟨Nat.le_refl _⟩, ⟨rk HO376⟩, ⟨bk BK373⟩, ⟨bw⟩⟩
  case round =>
   clear H'
   try clear p2
   try clear c3
   try clear c4
   try clear hcz7_0
   try clear hcz7_1
   try clear hcz7_2
   try clear hfz7_0
   try clear hfz7_1
   try clear hfz7_2
   obtain ⟨x3_1, x4_1, rfl, HA, HK1, HO_3, BK373, HB⟩ := hrel
   cases gk with
   | zero => exact absurd HA.out (by simp [spec_WorkClose.l0])
   | succ k1 =>
    have H := HA.out
    clear HA
    simp only [spec_WorkClose.l0] at H
    by_cases c9 : x4_1 < (l0_2.length : Int)
    ·rw [if_pos c9] at H
     have c9b0 : decide (x4_1 < (l0_2.length : Int)) = true := decide_eq_true c9
     clear c9
     by_cases c10 : 0 ≤ x4_1
     ·rw [if_pos c10] at H
      have c10b0 : decide (0 ≤ x4_1) = true := decide_eq_true c10
      clear c10
      by_cases c11 : x3_1.length < 5864062014805
      ·rw [if_pos c11] at H
       have LMc11 := Aside0.mk c11
       clear c11
       obtain ⟨y380, hy380⟩ : ∃ y_ : List (S129), y_ = (x3_1 ++ [(⟨5, (rd_T112 l0_2 x4_1).f1, (rd_T112 l0_2 x4_1).f0⟩ : S129)]) := ⟨_, rfl⟩
       replace H : (spec_WorkClose.l0 k1 y380 (wrap64 (x4_1 + 1)) l0_0 l0_1 l0_2) = some r := by first | (rw [hy380]; with_reducible exact H) | (have H2_ := (Option.bind_some _ _).symm.trans H; rw [hy380]; with_reducible exact H2_) | (have H2_ := (Option.bind_some _ _).symm.trans H; with_reducible exact H2_) | with_reducible exact H | (rw [hy380]; exact H) | exact H
       have Ny380 := Aside0.mk hy380
       clear hy380
       have H' := Aside0.mk H
       clear H
       have hcz12_0 : wr.cell? ⟨gb373, 0, none⟩ = some (.slice A0_0 l0_0.length c0_0) := (blk_cell BK373.out 0).trans rfl
       have hcz12_1 : wr.cell? ⟨gb373, 1, none⟩ = some (.slice A0_1 l0_1.length c0_1) := (blk_cell BK373.out 1).trans rfl
       have hcz12_2 : wr.cell? ⟨gb373, 2, none⟩ = some (.slice A0_2 l0_2.length c0_2) := (blk_cell BK373.out 2).trans rfl
       have hfz12_0 := blk_frozen BK373.out 0
       have hfz12_1 := blk_frozen BK373.out 1
       have hfz12_2 := blk_frozen BK373.out 2
       try go_wp2
       have n0_ := Aside0.mk (Kd.R_drew HO_3.out)
       have n1_ := Aside0.mk (blk_drew BK373.out)
       have n2_ := Aside0.mk (below_drew1 HB.out)
       clear HO_3
       clear BK373
       clear HB
       have HO_3 := n0_
       have BK373 := n1_
       have HB := n2_
       clear n0_ n1_ n2_
       have p378 : 0 ≤ (x4_1 : Int) := of_decide_eq_true (by first | (with_reducible assumption) | assumption)
       have q378 : x4_1 < (l0_2.length : Int) := of_decide_eq_true (by first | (with_reducible assumption) | assumption)
       obtain ⟨ad378, e378, hx378_0, hx378_1⟩ := at_T112 HR0_2.out x4_1 p378 q378
       have hw378_1 := hx378_1
       have hw378_0 := hx378_0
       cases e378
       replace hx378_0 := (HB.out.cell (World.block_lt_of_cell? w _ hx378_0)).trans hx378_0
       replace hx378_1 := (HB.out.cell (World.block_lt_of_cell? w _ hx378_1)).trans hx378_1
       replace p378 := eq_true p378
       replace q378 := eq_true q378
       have p379 : 0 ≤ (x4_1 : Int) := of_decide_eq_true (by first | (with_reducible assumption) | assumption)
       have q379 : x4_1 < (l0_2.length : Int) := of_decide_eq_true (by first | (with_reducible assumption) | assumption)
       obtain ⟨ad379, e379, hx379_0, hx379_1⟩ := at_T112 HR0_2.out x4_1 p379 q379
       have hw379_1 := hx379_1
       have hw379_0 := hx379_0
       obtain rfl : ad378 = ad379 := (by injection e379)
       replace hx379_0 := (HB.out.cell (World.block_lt_of_cell? w _ hx379_0)).trans hx379_0
       replace hx379_1 := (HB.out.cell (World.block_lt_of_cell? w _ hx379_1)).trans hx379_1
       replace p379 := eq_true p379
       replace q379 := eq_true q379
       refine start_ (n := 17) (S := fun w' => w'.cell? ⟨gb373, 0, none⟩ = some (.slice A0_0 l0_0.length c0_0) ∧ w'.cell? ⟨gb373, 1, none⟩ = some (.slice A0_1 l0_1.length c0_1) ∧ w'.cell? ⟨gb373, 2, none⟩ = some (.slice (some ad378) l0_2.length c0_2) ∧ w'.cell? (ad378.add ((x4_1).toNat * 2)) = some (.int .i64 ((rd_T112 l0_2 x4_1).f0)) ∧ w'.cell? ⟨(ad378.add ((x4_1).toNat * 2)).block, (ad378.add ((x4_1).toNat * 2)).off + 1, none⟩ = some (.int .i64 ((rd_T112 l0_2 x4_1).f1)) ∧ w'.cell? (ad378.add ((x4_1).toNat * 2)) = some (.int .i64 ((rd_T112 l0_2 x4_1).f0)) ∧ w'.cell? ⟨(ad378.add ((x4_1).toNat * 2)).block, (ad378.add ((x4_1).toNat * 2)).off + 1, none⟩ = some (.int .i64 ((rd_T112 l0_2 x4_1).f1))) (ds := []) (bz 17 0) (by kernel_rfl) rfl rfl ⟨(blk_cell BK373.out 0).trans rfl, (blk_cell BK373.out 1).trans rfl, (blk_cell BK373.out 2).trans rfl, ((HB.out.cell (World.block_lt_of_cell? w _ hw378_0)).trans hw378_0), ((HB.out.cell (World.block_lt_of_cell? w _ hw378_1)).trans hw378_1), ((HB.out.cell (World.block_lt_of_cell? w _ hw379_0)).trans hw379_0), ((HB.out.cell (World.block_lt_of_cell? w _ hw379_1)).trans hw379_1)⟩ (fun hHeld => ?_); refine with_tabW spec_WorkClose.tab7 spec_WorkClose.bits7 (fun HT_ HW_ => ?_)
       generalize wr.drew = w13 at HO_3 BK373 HB hx378_0 hx378_1 hx379_0 hx379_1 hHeld ⊢
       refine pure_ (i := 0) (N := some 19) (v := ?_) (a' := ?_) (bz 17 1) rfl rfl (any_of HT_.out (by kernel_rfl)) (fun _ _ _ h => h) (Or.inl ⟨by rfl, ?_⟩) ?_ ?_
       rotate_left
       ·intro w'
        go_simp
        with_reducible rfl
       rotate_left
       ·simp only [Act.put, List.setIfInBounds_toArray, List.set_cons_zero, List.set_cons_succ, i64_w, i32_w]
        rfl
       refine pure_ (i := 1) (N := some 20) (v := ?_) (a' := ?_) (bz 17 3) rfl rfl (any_of HT_.out (by kernel_rfl)) (fun _ _ _ h => h) (Or.inl ⟨by rfl, ?_⟩) ?_ ?_
       rotate_left
       ·intro w'
        go_simp
        with_reducible rfl
       rotate_left
       ·simp only [Act.put, List.setIfInBounds_toArray, List.set_cons_zero, List.set_cons_succ, i64_w, i32_w]
        rfl
       refine pure_ (i := 3) (N := some 22) (v := ?_) (a' := ?_) (bz 17 11) rfl rfl (any_of HT_.out (by kernel_rfl)) (fun _ _ _ h => h) (Or.inl ⟨by rfl, ?_⟩) ?_ ?_
       rotate_left
       ·intro w'
        go_simp
        with_reducible rfl
       rotate_left
       ·simp only [Act.put, List.setIfInBounds_toArray, List.set_cons_zero, List.set_cons_succ, i64_w, i32_w]
        rfl
       refine pure_ (i := 7) (N := some 26) (v := ?_) (a' := ?_) (bz 17 139) rfl rfl (any_of HT_.out (by kernel_rfl)) (fun _ _ _ h => h) (Or.inl ⟨by rfl, ?_⟩) ?_ ?_
       rotate_left
       ·intro w'
        go_simp
        with_reducible rfl
       rotate_left
       ·simp only [Act.put, List.setIfInBounds_toArray, List.set_cons_zero, List.set_cons_succ, i64_w, i32_w]
        rfl
       refine pure_ (i := 9) (N := some 28) (v := ?_) (a' := ?_) (bz 17 651) rfl rfl (any_of HT_.out (by kernel_rfl)) (fun _ _ _ h => h) (Or.inl ⟨by rfl, ?_⟩) ?_ ?_
       rotate_left
       ·intro w'
        go_simp
        with_reducible rfl
       rotate_left
       ·simp only [Act.put, List.setIfInBounds_toArray, List.set_cons_zero, List.set_cons_succ, i64_w, i32_w]
        rfl
       refine take_ (i := 2) (N := some 21) (v := ?_) (a' := ?_) (bz 17 655) rfl rfl (take_ofW HT_.out HW_.out (by kernel_rfl)) (fun _ _ _ h => h) (Or.inl ⟨by rfl, ?_⟩) hHeld ?_ ?_
       rotate_left
       ·rintro w' ⟨s0, s1, s2, s3, s4, s5, s6⟩
        go_simp
        with_reducible rfl
       rotate_left
       ·simp only [Act.put, List.setIfInBounds_toArray, List.set_cons_zero, List.set_cons_succ, i64_w, i32_w]
        rfl
       refine pure_ (i := 4) (N := some 23) (v := ?_) (a' := ?_) (bz 17 671) rfl rfl (any_of HT_.out (by kernel_rfl)) (fun _ _ _ h => h) (Or.inl ⟨by rfl, ?_⟩) ?_ ?_
       rotate_left
       ·intro w'
        go_simp
        with_reducible rfl
       rotate_left
       ·simp only [Act.put, List.setIfInBounds_toArray, List.set_cons_zero, List.set_cons_succ, i64_w, i32_w]
        rfl
       refine pure_ (i := 5) (N := some 24) (v := ?_) (a' := ?_) (bz 17 703) rfl rfl (any_of HT_.out (by kernel_rfl)) (fun _ _ _ h => h) (Or.inl ⟨by rfl, ?_⟩) ?_ ?_
       rotate_left
       ·intro w'
        go_simp
        with_reducible rfl
       rotate_left
       ·simp only [Act.put, List.setIfInBounds_toArray, List.set_cons_zero, List.set_cons_succ, i64_w, i32_w]
        rfl
       refine take_ (i := 6) (N := some 25) (v := ?_) (a' := ?_) (bz 17 767) rfl rfl (take_ofW HT_.out HW_.out (by kernel_rfl)) (fun _ _ _ h => h) (Or.inl ⟨by rfl, ?_⟩) hHeld ?_ ?_
       rotate_left
       ·rintro w' ⟨s0, s1, s2, s3, s4, s5, s6⟩
        go_simp
        with_reducible rfl
       rotate_left
       ·simp only [Act.put, List.setIfInBounds_toArray, List.set_cons_zero, List.set_cons_succ, i64_w, i32_w]
        rfl
       refine take_ (i := 8) (N := some 27) (v := ?_) (a' := ?_) (bz 17 1023) rfl rfl (take_ofW HT_.out HW_.out (by kernel_rfl)) (fun _ _ _ h => h) (Or.inl ⟨by rfl, ?_⟩) hHeld ?_ ?_
       rotate_left
       ·rintro w' ⟨s0, s1, s2, s3, s4, s5, s6⟩
        go_simp
        with_reducible rfl
       rotate_left
       ·simp only [Act.put, List.setIfInBounds_toArray, List.set_cons_zero, List.set_cons_succ, i64_w, i32_w]
        rfl
       refine pure_ (i := 10) (N := some 29) (v := ?_) (a' := ?_) (bz 17 2047) rfl rfl (any_of HT_.out (by kernel_rfl)) (fun _ _ _ h => h) (Or.inl ⟨by rfl, ?_⟩) ?_ ?_
       rotate_left
       ·intro w'
        go_simp
        with_reducible rfl
       rotate_left
       ·simp only [Act.put, List.setIfInBounds_toArray, List.set_cons_zero, List.set_cons_succ, i64_w, i32_w]
        rfl
       refine pure_ (i := 11) (N := some 30) (v := ?_) (a' := ?_) (bz 17 4095) rfl rfl (any_of HT_.out (by kernel_rfl)) (fun _ _ _ h => h) (Or.inl ⟨by rfl, ?_⟩) ?_ ?_
       rotate_left
       ·intro w'
        go_simp
        with_reducible rfl
       rotate_left
       ·simp only [Act.put, List.setIfInBounds_toArray, List.set_cons_zero, List.set_cons_succ, i64_w, i32_w]
        rfl
       refine take_ (i := 12) (N := some 31) (v := ?_) (a' := ?_) (bz 17 8191) rfl rfl (take_ofW HT_.out HW_.out (by kernel_rfl)) (fun _ _ _ h => h) (Or.inl ⟨by rfl, ?_⟩) hHeld ?_ ?_
       rotate_left
       ·rintro w' ⟨s0, s1, s2, s3, s4, s5, s6⟩
        go_simp
        with_reducible rfl
       rotate_left
       ·simp only [Act.put, List.setIfInBounds_toArray, List.set_cons_zero, List.set_cons_succ, i64_w, i32_w]
        rfl
       refine pure_ (i := 13) (N := some 32) (v := ?_) (a' := ?_) (bz 17 16383) rfl rfl (any_of HT_.out (by kernel_rfl)) (fun _ _ _ h => h) (Or.inl ⟨by rfl, ?_⟩) ?_ ?_
       rotate_left
       ·intro w'
        go_simp
        with_reducible rfl
       rotate_left
       ·simp only [Act.put, List.setIfInBounds_toArray, List.set_cons_zero, List.set_cons_succ, i64_w, i32_w]
        rfl
       refine one_ (i := 14) (N := some 33) (bz 17 32767) rfl rfl (one_of HT_.out (by kernel_rfl)) (by decide) (fun K hK => ?_)
       refine value_ (w1 := ?_) (v := ?_) (by rfl) rfl ?_ ?_
       rotate_left 2
       ·go_simp
        constructor
        ·rfl
        ·rfl
       refine hK.out _ _ ⟨(blk_cell (blk_alloc BK373.out _) 0).trans rfl, (blk_cell (blk_alloc BK373.out _) 1).trans rfl, (blk_cell (blk_alloc BK373.out _) 2).trans rfl, (World.cell?_alloc_lt _ _ _ (World.block_lt_of_cell? _ _ (((HB.out.cell (World.block_lt_of_cell? w _ hw378_0)).trans hw378_0)))).trans (((HB.out.cell (World.block_lt_of_cell? w _ hw378_0)).trans hw378_0)), (World.cell?_alloc_lt _ _ _ (World.block_lt_of_cell? _ _ (((HB.out.cell (World.block_lt_of_cell? w _ hw378_1)).trans hw378_1)))).trans (((HB.out.cell (World.block_lt_of_cell? w _ hw378_1)).trans hw378_1)), (World.cell?_alloc_lt _ _ _ (World.block_lt_of_cell? _ _ (((HB.out.cell (World.block_lt_of_cell? w _ hw379_0)).trans hw379_0)))).trans (((HB.out.cell (World.block_lt_of_cell? w _ hw379_0)).trans hw379_0)), (World.cell?_alloc_lt _ _ _ (World.block_lt_of_cell? _ _ (((HB.out.cell (World.block_lt_of_cell? w _ hw379_1)).trans hw379_1)))).trans (((HB.out.cell (World.block_lt_of_cell? w _ hw379_1)).trans hw379_1))⟩ (fun hHeld => ?_)
       clear hK K
       refine norm_ (a' := ?_) ?_ ?_
       rotate_left
       ·show Act.put _ (some 33) _ = _
        simp only [Act.put, List.setIfInBounds_toArray, List.set_cons_zero, List.set_cons_succ, i64_w, i32_w]
        rfl
       refine one_ (i := 15) (N := some 34) (bz 17 65535) rfl rfl (one_of HT_.out (by kernel_rfl)) (by decide) (fun K hK => ?_)
       refine Kd.R_append_step k129 (w0 := w) w.heap.size (by rfl) (.tmp 19) (.tmp 33) 83 129 (.agg #[(.int .i64 0), (.int .i64 0), (.int .i64 0)]) 24 rfl Try.underlying83 info129 rfl (by decide) (by omega) u3 x3_1 (⟨5, (rd_T112 l0_2 x4_1).f1, (rd_T112 l0_2 x4_1).f0⟩ : S129) [.int .i64 5, .int .i64 ((rd_T112 l0_2 x4_1).f1), .int .i64 ((rd_T112 l0_2 x4_1).f0)] (fun _ => True) (fun _ => False) rfl rfl ?aP (fun _ hk => hk.elim) ?aF ?aO ?aB ?aS ?aL ?_
       (case aP => exact k129_mkM _ _ _ (⟨5, (rd_T112 l0_2 x4_1).f1, (rd_T112 l0_2 x4_1).f0⟩ : S129))
       (case aB => exact bw)
       (case aF => exact (fun _ _ => trivial))
       (case aO => exact (rk HO_3))
       (case aS => exact (below_size bw))
       (case aL => have := LMc11.out; omega)
       intro v381 w14 ho hb hg hat
       rw [← Ny380.out] at ho
       have n0_ := Aside0.mk (blk_grown (g := gb373) (o := .cells #[.slice A0_0 l0_0.length c0_0, .slice A0_1 l0_1.length c0_1, .slice (some ad378) l0_2.length c0_2] 73 (0, 0)) (bk BK373) hg (Kd.R_ne HO_3.out BK373.out (by decide)))
       have n1_ := Aside0.mk (hb)
       have n2_ := Aside0.mk (ho)
       clear BK373
       clear HB
       clear HO_3
       have BK373 := n0_
       have HB := n1_
       have HO382 := n2_
       clear n0_ n1_ n2_
       clear ho hb hg hat
       refine hK.out _ _ ⟨(blk_cell BK373.out 0).trans rfl, (blk_cell BK373.out 1).trans rfl, (blk_cell BK373.out 2).trans rfl, ((HB.out.cell (World.block_lt_of_cell? w _ hw378_0)).trans hw378_0), ((HB.out.cell (World.block_lt_of_cell? w _ hw378_1)).trans hw378_1), ((HB.out.cell (World.block_lt_of_cell? w _ hw379_0)).trans hw379_0), ((HB.out.cell (World.block_lt_of_cell? w _ hw379_1)).trans hw379_1)⟩ (fun hHeld => ?_)
       clear hK K
       refine norm_ (a' := ?_) ?_ ?_
       rotate_left
       ·show Act.put _ (some 34) _ = _
        simp only [Act.put, List.setIfInBounds_toArray, List.set_cons_zero, List.set_cons_succ, i64_w, i32_w]
        rfl
       refine pure_ (i := 16) (N := some 3) (v := ?_) (a' := ?_) (bz 17 131071) rfl rfl (any_of HT_.out (by kernel_rfl)) (fun _ _ _ h => h) (Or.inl ⟨by rfl, ?_⟩) ?_ ?_
       rotate_left
       ·intro w'
        go_simp
        with_reducible rfl
       rotate_left
       ·simp only [Act.put, List.setIfInBounds_toArray, List.set_cons_zero, List.set_cons_succ, i64_w, i32_w]
        rfl
       refine done_ (done_of HT_.out (by kernel_rfl)) ?_
       try go_wp2
       go_roundg k1
       case measure => have := HK1.out; omega
       case rel => exact ⟨(y380), (wrap64 (x4_1 + 1)), (by first | rfl | (simp; done) | (simp [*]; done)), H', ⟨by have := HK1.out; omega⟩, ⟨rk HO382⟩, ⟨bk BK373⟩, ⟨bw⟩⟩
      ·rw [if_neg c11] at H
       exact absurd H (by simp)
     ·rw [if_neg c10] at H
      exact absurd H (by simp)
    ·rw [if_neg c9] at H
     have c9b0 : decide (x4_1 < (l0_2.length : Int)) = false := decide_eq_false c9
     clear c9
     have H' := Aside0.mk H
     clear H
     have hcz15_0 : wr.cell? ⟨gb373, 0, none⟩ = some (.slice A0_0 l0_0.length c0_0) := (blk_cell BK373.out 0).trans rfl
     have hcz15_1 : wr.cell? ⟨gb373, 1, none⟩ = some (.slice A0_1 l0_1.length c0_1) := (blk_cell BK373.out 1).trans rfl
     have hcz15_2 : wr.cell? ⟨gb373, 2, none⟩ = some (.slice A0_2 l0_2.length c0_2) := (blk_cell BK373.out 2).trans rfl
     have hfz15_0 := blk_frozen BK373.out 0
     have hfz15_1 := blk_frozen BK373.out 1
     have hfz15_2 := blk_frozen BK373.out 2
     go_wp2
     go_loopg [3, 5] k1 (fun kq v3 v5 w' => ∃ (x3_2 : List (S129)) (x5_2 : Int), v5 = .int .i64 x5_2 ∧ Aside0 (spec_WorkClose.l1 kq x3_2 x5_2 l0_0 l0_1 l0_2 = some r) ∧ Aside0 (kq ≤ k1) ∧ Aside0 (Kd.R k129 129 w' w.heap.size (fun _ => True) v3 x3_2) ∧ Aside0 (w'.heap[gb373]? = some (.cells #[(.slice A0_0 l0_0.length c0_0), (.slice A0_1 l0_1.length c0_1), (.slice A0_2 l0_2.length c0_2)] 73 (0, 0))) ∧ Aside0 (Below w.heap.size w w'))
     case atStart => exact ⟨(x3_1), (0), (by first | rfl | (simp; done) | (simp [*]; done)), H', ⟨Nat.le_refl _⟩, ⟨rk HO_3⟩, ⟨bk BK373⟩, ⟨bw⟩⟩
     case round =>
      clear H'
      try clear c1
      try clear p2
      try clear c3
      try clear p3
      try clear q3
      try clear hx3
      try clear c4
      try clear p6
      try clear c9
      try clear c9b0
      try clear c10
      try clear c10b0
      try clear c11
      try clear hcz12_0
      try clear hcz12_1
      try clear hcz12_2
      try clear hcz15_0
      try clear hcz15_1
      try clear hcz15_2
      try clear hcz7_0
      try clear hcz7_1
      try clear hcz7_2
      try clear hfz12_0
      try clear hfz12_1
      try clear hfz12_2
      try clear hfz15_0
      try clear hfz15_1
      try clear hfz15_2
      try clear hfz7_0
      try clear hfz7_1
      try clear hfz7_2
      try clear hx378_0
      try clear hx378_1
      try clear hx379_0
      try clear hx379_1
      try clear p2
      try clear p378
      try clear p379
      try clear q378
      try clear q379
      obtain ⟨x3_2, x5_2, rfl, HA, HK2, HO_3, BK373, HB⟩ := hrel
      cases gk with
      | zero => exact absurd HA.out (by simp [spec_WorkClose.l1])
      | succ k2 =>
       have H := HA.out
       clear HA
       simp only [spec_WorkClose.l1] at H
       by_cases c16 : x5_2 < (l0_0.length : Int)
       ·rw [if_pos c16] at H
        have c16b0 : decide (x5_2 < (l0_0.length : Int)) = true := decide_eq_true c16
        clear c16
        by_cases c17 : 0 ≤ x5_2
        ·rw [if_pos c17] at H
         have c17b0 : decide (0 ≤ x5_2) = true := decide_eq_true c17
         clear c17
         by_cases c18 : x5_2 < (l0_1.length : Int)
         ·rw [if_pos c18] at H
          have c18b0 : decide (x5_2 < (l0_1.length : Int)) = true := decide_eq_true c18
          clear c18
          obtain ⟨bq19, hbq19⟩ : ∃ b_ : Bool, b_ = (rdOf false l0_1 x5_2) := ⟨_, rfl⟩
          replace H : (if bq19 = true then (if x3_2.length < 5864062014805 then (spec_WorkClose.l1 k2 (x3_2 ++ [(⟨3, x5_2, 0⟩ : S129)]) (wrap64 (x5_2 + 1)) l0_0 l0_1 l0_2) else (none)) else (spec_WorkClose.l1 k2 x3_2 (wrap64 (x5_2 + 1)) l0_0 l0_1 l0_2)) = some r := by rw [← hbq19] at H; exact H
          have Nbq19 := Aside0.mk hbq19
          clear hbq19
          by_cases c20 : bq19 = true
          ·subst c20
           have H1 : (if x3_2.length < 5864062014805 then (spec_WorkClose.l1 k2 (x3_2 ++ [(⟨3, x5_2, 0⟩ : S129)]) (wrap64 (x5_2 + 1)) l0_0 l0_1 l0_2) else (none)) = some r := by rw [if_pos rfl] at H; exact H
           clear H
           have H := H1
           clear H1
           by_cases c21 : x3_2.length < 5864062014805
           ·rw [if_pos c21] at H
            have LMc21 := Aside0.mk c21
            clear c21
            obtain ⟨y384, hy384⟩ : ∃ y_ : List (S129), y_ = (x3_2 ++ [(⟨3, x5_2, 0⟩ : S129)]) := ⟨_, rfl⟩
            replace H : (spec_WorkClose.l1 k2 y384 (wrap64 (x5_2 + 1)) l0_0 l0_1 l0_2) = some r := by first | (rw [hy384]; with_reducible exact H) | (have H2_ := (Option.bind_some _ _).symm.trans H; rw [hy384]; with_reducible exact H2_) | (have H2_ := (Option.bind_some _ _).symm.trans H; with_reducible exact H2_) | with_reducible exact H | (rw [hy384]; exact H) | exact H
            have Ny384 := Aside0.mk hy384
            clear hy384
            have H' := Aside0.mk H
            clear H
            have hcz22_0 : wr.cell? ⟨gb373, 0, none⟩ = some (.slice A0_0 l0_0.length c0_0) := (blk_cell BK373.out 0).trans rfl
            have hcz22_1 : wr.cell? ⟨gb373, 1, none⟩ = some (.slice A0_1 l0_1.length c0_1) := (blk_cell BK373.out 1).trans rfl
            have hcz22_2 : wr.cell? ⟨gb373, 2, none⟩ = some (.slice A0_2 l0_2.length c0_2) := (blk_cell BK373.out 2).trans rfl
            have hfz22_0 := blk_frozen BK373.out 0
            have hfz22_1 := blk_frozen BK373.out 1
            have hfz22_2 := blk_frozen BK373.out 2
            have p383 : 0 ≤ (x5_2 : Int) := of_decide_eq_true (by first | (with_reducible assumption) | assumption)
            have q383 : x5_2 < (l0_1.length : Int) := of_decide_eq_true (by first | (with_reducible assumption) | assumption)
            obtain ⟨ad383, e383, hx383_0⟩ := Kd.at_bool HR0_1.out x5_2 p383 q383
            (try rw [← Nbq19.out] at hx383_0)
            cases e383
            replace hx383_0 := (HB.out.cell (World.block_lt_of_cell? w _ hx383_0)).trans hx383_0
            replace p383 := eq_true p383
            replace q383 := eq_true q383
            go_wp2_with (first | ((with_reducible refine gate_builtin (b := .append) (xs := #[.tmp 47, .tmp 50]) rfl ?_); at_builtin; refine Kd.R_append k129 (w0 := w) w.heap.size rfl (.tmp 47) (.tmp 50) 83 129 (.agg #[(.int .i64 0), (.int .i64 0), (.int .i64 0)]) 24 rfl Try.underlying83 info129 rfl (by decide) (by omega) u3 x3_2 (⟨3, x5_2, 0⟩ : S129) [.int .i64 3, .int .i64 x5_2, .int .i64 0] (fun _ => True) (fun _ => False) rfl rfl ?aP (fun _ hk => hk.elim) ?aF ?aO ?aB ?aS ?aL ?_; (case aP => exact k129_mkM _ _ _ (⟨3, x5_2, 0⟩ : S129)); (case aB => exact bw); (case aF => exact (fun _ _ => trivial)); (case aO => exact (rk HO_3)); (case aS => exact (below_size bw)); (case aL => have := LMc21.out; omega); intro v385 w23 ho hb hg hat; rw [← Ny384.out] at ho; have n0_ := Aside0.mk (blk_grown (g := gb373) (o := .cells #[.slice A0_0 l0_0.length c0_0, .slice (some ad383) l0_1.length c0_1, .slice A0_2 l0_2.length c0_2] 73 (0, 0)) (bk BK373) hg (Kd.R_ne HO_3.out BK373.out (by decide))); have n1_ := Aside0.mk (hb); have n2_ := Aside0.mk (ho); clear BK373 HB HO_3; have BK373 := n0_; have HB := n1_; have HO386 := n2_; clear n0_ n1_ n2_; clear ho hb hg hat))
            go_roundg k2
            case measure => have := HK1.out; have := HK2.out; omega
            case rel => exact ⟨(y384), (wrap64 (x5_2 + 1)), (by first | rfl | (simp; done) | (simp [*]; done)), H', ⟨by have := HK1.out; have := HK2.out; omega⟩, ⟨rk HO386⟩, ⟨bk BK373⟩, ⟨bw⟩⟩
           ·rw [if_neg c21] at H
            exact absurd H (by simp)
          ·replace c20 := Bool.eq_false_iff.mpr c20
           subst c20
           have H1 : (spec_WorkClose.l1 k2 x3_2 (wrap64 (x5_2 + 1)) l0_0 l0_1 l0_2) = some r := by rw [if_neg (show ¬ (false = true) by decide)] at H; exact H
           clear H
           have H := H1
           clear H1
           have H' := Aside0.mk H
           clear H
           have hcz24_0 : wr.cell? ⟨gb373, 0, none⟩ = some (.slice A0_0 l0_0.length c0_0) := (blk_cell BK373.out 0).trans rfl
           have hcz24_1 : wr.cell? ⟨gb373, 1, none⟩ = some (.slice A0_1 l0_1.length c0_1) := (blk_cell BK373.out 1).trans rfl
           have hcz24_2 : wr.cell? ⟨gb373, 2, none⟩ = some (.slice A0_2 l0_2.length c0_2) := (blk_cell BK373.out 2).trans rfl
           have hfz24_0 := blk_frozen BK373.out 0
           have hfz24_1 := blk_frozen BK373.out 1
           have hfz24_2 := blk_frozen BK373.out 2
           have p383 : 0 ≤ (x5_2 : Int) := of_decide_eq_true (by first | (with_reducible assumption) | assumption)
           have q383 : x5_2 < (l0_1.length : Int) := of_decide_eq_true (by first | (with_reducible assumption) | assumption)
           obtain ⟨ad383, e383, hx383_0⟩ := Kd.at_bool HR0_1.out x5_2 p383 q383
           (try rw [← Nbq19.out] at hx383_0)
           cases e383
           replace hx383_0 := (HB.out.cell (World.block_lt_of_cell? w _ hx383_0)).trans hx383_0
           replace p383 := eq_true p383
           replace q383 := eq_true q383
           go_wp2
           go_roundg k2
           case measure => have := HK1.out; have := HK2.out; omega
           case rel => exact ⟨(x3_2), (wrap64 (x5_2 + 1)), (by first | rfl | (simp; done) | (simp [*]; done)), H', ⟨by have := HK1.out; have := HK2.out; omega⟩, ⟨rk HO_3⟩, ⟨bk BK373⟩, ⟨bw⟩⟩
         ·rw [if_neg c18] at H
          exact absurd H (by simp)
        ·rw [if_neg c17] at H
         exact absurd H (by simp)
       ·rw [if_neg c16] at H
        have c16b0 : decide (x5_2 < (l0_0.length : Int)) = false := decide_eq_false c16
        clear c16
        have H' := Aside0.mk H
        clear H
        have hcz25_0 : wr.cell? ⟨gb373, 0, none⟩ = some (.slice A0_0 l0_0.length c0_0) := (blk_cell BK373.out 0).trans rfl
        have hcz25_1 : wr.cell? ⟨gb373, 1, none⟩ = some (.slice A0_1 l0_1.length c0_1) := (blk_cell BK373.out 1).trans rfl
        have hcz25_2 : wr.cell? ⟨gb373, 2, none⟩ = some (.slice A0_2 l0_2.length c0_2) := (blk_cell BK373.out 2).trans rfl
        have hfz25_0 := blk_frozen BK373.out 0
        have hfz25_1 := blk_frozen BK373.out 1
        have hfz25_2 := blk_frozen BK373.out 2
        go_wp2
        go_loopg [3, 6] k2 (fun kq v3 v6 w' => ∃ (x3_3 : List (S129)) (x6_3 : Int), v6 = .int .i64 x6_3 ∧ Aside0 (spec_WorkClose.l2 kq x3_3 x6_3 l0_0 l0_1 l0_2 = some r) ∧ Aside0 (kq ≤ k2) ∧ Aside0 (Kd.R k129 129 w' w.heap.size (fun _ => True) v3 x3_3) ∧ Aside0 (w'.heap[gb373]? = some (.cells #[(.slice A0_0 l0_0.length c0_0), (.slice A0_1 l0_1.length c0_1), (.slice A0_2 l0_2.length c0_2)] 73 (0, 0))) ∧ Aside0 (Below w.heap.size w w'))
        case atStart => exact ⟨(x3_2), (0), (by first | rfl | (simp; done) | (simp [*]; done)), H', ⟨Nat.le_refl _⟩, ⟨rk HO_3⟩, ⟨bk BK373⟩, ⟨bw⟩⟩
        case round =>
         clear H'
         try clear c1
         try clear q1
         try clear c2
         try clear p2
         try clear c3
         try clear p3
         try clear q3
         try clear hx3
         try clear c4
         try clear p6
         try clear c9
         try clear c9b0
         try clear c10
         try clear c10b0
         try clear c11
         try clear c16
         try clear c16b0
         try clear c17
         try clear c17b0
         try clear c18
         try clear c18b0
         try clear q19
         try clear c20
         try clear c21
         try clear hcz12_0
         try clear hcz12_1
         try clear hcz12_2
         try clear hcz15_0
         try clear hcz15_1
         try clear hcz15_2
         try clear hcz22_0
         try clear hcz22_1
         try clear hcz22_2
         try clear hcz24_0
         try clear hcz24_1
         try clear hcz24_2
         try clear hcz25_0
         try clear hcz25_1
         try clear hcz25_2
         try clear hcz7_0
         try clear hcz7_1
         try clear hcz7_2
         try clear hfz12_0
         try clear hfz12_1
         try clear hfz12_2
         try clear hfz15_0
         try clear hfz15_1
         try clear hfz15_2
         try clear hfz22_0
         try clear hfz22_1
         try clear hfz22_2
         try clear hfz24_0
         try clear hfz24_1
         try clear hfz24_2
         try clear hfz25_0
         try clear hfz25_1
         try clear hfz25_2
         try clear hfz7_0
         try clear hfz7_1
         try clear hfz7_2
         try clear hx378_0
         try clear hx378_1
         try clear hx379_0
         try clear hx379_1
         try clear hx383_0
         try clear p2
         try clear p3
         try clear p378
         try clear p379
         try clear p383
         try clear p6
         try clear q3
         try clear q378
         try clear q379
         try clear q383
         obtain ⟨x3_3, x6_3, rfl, HA, HK3, HO_3, BK373, HB⟩ := hrel
         cases gk with
         | zero => exact absurd HA.out (by simp [spec_WorkClose.l2])
         | succ k3 =>
          have H := HA.out
          clear HA
          simp only [spec_WorkClose.l2] at H
          by_cases c26 : x6_3 < (l0_0.length : Int)
          ·rw [if_pos c26] at H
           have c26b0 : decide (x6_3 < (l0_0.length : Int)) = true := decide_eq_true c26
           clear c26
           by_cases c27 : 0 ≤ x6_3
           ·rw [if_pos c27] at H
            have c27b0 : decide (0 ≤ x6_3) = true := decide_eq_true c27
            clear c27
            obtain ⟨bq28, hbq28⟩ : ∃ b_ : Bool, b_ = (rdOf false l0_0 x6_3) := ⟨_, rfl⟩
            replace H : (if bq28 = true then (spec_WorkClose.l2 k3 x3_3 (wrap64 (x6_3 + 1)) l0_0 l0_1 l0_2) else (if x3_3.length < 5864062014805 then (spec_WorkClose.l2 k3 (x3_3 ++ [(⟨0, x6_3, 0⟩ : S129)]) (wrap64 (x6_3 + 1)) l0_0 l0_1 l0_2) else (none))) = some r := by rw [← hbq28] at H; exact H
            have Nbq28 := Aside0.mk hbq28
            clear hbq28
            by_cases c29 : bq28 = true
            ·subst c29
             have H1 : (spec_WorkClose.l2 k3 x3_3 (wrap64 (x6_3 + 1)) l0_0 l0_1 l0_2) = some r := by rw [if_pos rfl] at H; exact H
             clear H
             have H := H1
             clear H1
             have H' := Aside0.mk H
             clear H
             have hcz30_0 : wr.cell? ⟨gb373, 0, none⟩ = some (.slice A0_0 l0_0.length c0_0) := (blk_cell BK373.out 0).trans rfl
             have hcz30_1 : wr.cell? ⟨gb373, 1, none⟩ = some (.slice A0_1 l0_1.length c0_1) := (blk_cell BK373.out 1).trans rfl
             have hcz30_2 : wr.cell? ⟨gb373, 2, none⟩ = some (.slice A0_2 l0_2.length c0_2) := (blk_cell BK373.out 2).trans rfl
             have hfz30_0 := blk_frozen BK373.out 0
             have hfz30_1 := blk_frozen BK373.out 1
             have hfz30_2 := blk_frozen BK373.out 2
             have p387 : 0 ≤ (x6_3 : Int) := of_decide_eq_true (by first | (with_reducible assumption) | assumption)
             have q387 : x6_3 < (l0_0.length : Int) := of_decide_eq_true (by first | (with_reducible assumption) | assumption)
             obtain ⟨ad387, e387, hx387_0⟩ := Kd.at_bool HR0_0.out x6_3 p387 q387
             (try rw [← Nbq28.out] at hx387_0)
             cases e387
             replace hx387_0 := (HB.out.cell (World.block_lt_of_cell? w _ hx387_0)).trans hx387_0
             replace p387 := eq_true p387
             replace q387 := eq_true q387
             go_wp2
             go_roundg k3
             case measure => have := HK1.out; have := HK2.out; have := HK3.out; omega
             case rel => exact ⟨(x3_3), (wrap64 (x6_3 + 1)), (by first | rfl | (simp; done) | (simp [*]; done)), H', ⟨by have := HK1.out; have := HK2.out; have := HK3.out; omega⟩, ⟨rk HO_3⟩, ⟨bk BK373⟩, ⟨bw⟩⟩
            ·replace c29 := Bool.eq_false_iff.mpr c29
             subst c29
             have H1 : (if x3_3.length < 5864062014805 then (spec_WorkClose.l2 k3 (x3_3 ++ [(⟨0, x6_3, 0⟩ : S129)]) (wrap64 (x6_3 + 1)) l0_0 l0_1 l0_2) else (none)) = some r := by rw [if_neg (show ¬ (false = true) by decide)] at H; exact H
             clear H
             have H := H1
             clear H1
             by_cases c31 : x3_3.length < 5864062014805
             ·rw [if_pos c31] at H
              have LMc31 := Aside0.mk c31
              clear c31
              obtain ⟨y388, hy388⟩ : ∃ y_ : List (S129), y_ = (x3_3 ++ [(⟨0, x6_3, 0⟩ : S129)]) := ⟨_, rfl⟩
              replace H : (spec_WorkClose.l2 k3 y388 (wrap64 (x6_3 + 1)) l0_0 l0_1 l0_2) = some r := by first | (rw [hy388]; with_reducible exact H) | (have H2_ := (Option.bind_some _ _).symm.trans H; rw [hy388]; with_reducible exact H2_) | (have H2_ := (Option.bind_some _ _).symm.trans H; with_reducible exact H2_) | with_reducible exact H | (rw [hy388]; exact H) | exact H
              have Ny388 := Aside0.mk hy388
              clear hy388
              have H' := Aside0.mk H
              clear H
              have hcz32_0 : wr.cell? ⟨gb373, 0, none⟩ = some (.slice A0_0 l0_0.length c0_0) := (blk_cell BK373.out 0).trans rfl
              have hcz32_1 : wr.cell? ⟨gb373, 1, none⟩ = some (.slice A0_1 l0_1.length c0_1) := (blk_cell BK373.out 1).trans rfl
              have hcz32_2 : wr.cell? ⟨gb373, 2, none⟩ = some (.slice A0_2 l0_2.length c0_2) := (blk_cell BK373.out 2).trans rfl
              have hfz32_0 := blk_frozen BK373.out 0
              have hfz32_1 := blk_frozen BK373.out 1
              have hfz32_2 := blk_frozen BK373.out 2
              have p387 : 0 ≤ (x6_3 : Int) := of_decide_eq_true (by first | (with_reducible assumption) | assumption)
              have q387 : x6_3 < (l0_0.length : Int) := of_decide_eq_true (by first | (with_reducible assumption) | assumption)
              obtain ⟨ad387, e387, hx387_0⟩ := Kd.at_bool HR0_0.out x6_3 p387 q387
              (try rw [← Nbq28.out] at hx387_0)
              cases e387
              replace hx387_0 := (HB.out.cell (World.block_lt_of_cell? w _ hx387_0)).trans hx387_0
              replace p387 := eq_true p387
              replace q387 := eq_true q387
              go_wp2_with (first | ((with_reducible refine gate_builtin (b := .append) (xs := #[.tmp 65, .tmp 68]) rfl ?_); at_builtin; refine Kd.R_append k129 (w0 := w) w.heap.size rfl (.tmp 65) (.tmp 68) 83 129 (.agg #[(.int .i64 0), (.int .i64 0), (.int .i64 0)]) 24 rfl Try.underlying83 info129 rfl (by decide) (by omega) u3 x3_3 (⟨0, x6_3, 0⟩ : S129) [.int .i64 0, .int .i64 x6_3, .int .i64 0] (fun _ => True) (fun _ => False) rfl rfl ?aP (fun _ hk => hk.elim) ?aF ?aO ?aB ?aS ?aL ?_; (case aP => exact k129_mkM _ _ _ (⟨0, x6_3, 0⟩ : S129)); (case aB => exact bw); (case aF => exact (fun _ _ => trivial)); (case aO => exact (rk HO_3)); (case aS => exact (below_size bw)); (case aL => have := LMc31.out; omega); intro v389 w33 ho hb hg hat; rw [← Ny388.out] at ho; have n0_ := Aside0.mk (blk_grown (g := gb373) (o := .cells #[.slice (some ad387) l0_0.length c0_0, .slice A0_1 l0_1.length c0_1, .slice A0_2 l0_2.length c0_2] 73 (0, 0)) (bk BK373) hg (Kd.R_ne HO_3.out BK373.out (by decide))); have n1_ := Aside0.mk (hb); have n2_ := Aside0.mk (ho); clear BK373 HB HO_3; have BK373 := n0_; have HB := n1_; have HO390 := n2_; clear n0_ n1_ n2_; clear ho hb hg hat))
              go_roundg k3
              case measure => have := HK1.out; have := HK2.out; have := HK3.out; omega
              case rel => exact ⟨(y388), (wrap64 (x6_3 + 1)), (by first | rfl | (simp; done) | (simp [*]; done)), H', ⟨by have := HK1.out; have := HK2.out; have := HK3.out; omega⟩, ⟨rk HO390⟩, ⟨bk BK373⟩, ⟨bw⟩⟩
             ·rw [if_neg c31] at H
              exact absurd H (by simp)
           ·rw [if_neg c27] at H
            exact absurd H (by simp)
          ·rw [if_neg c26] at H
           have c26b0 : decide (x6_3 < (l0_0.length : Int)) = false := decide_eq_false c26
           clear c26
           obtain rfl := Option.some.inj H
           have hcz34_0 : wr.cell? ⟨gb373, 0, none⟩ = some (.slice A0_0 l0_0.length c0_0) := (blk_cell BK373.out 0).trans rfl
           have hcz34_1 : wr.cell? ⟨gb373, 1, none⟩ = some (.slice A0_1 l0_1.length c0_1) := (blk_cell BK373.out 1).trans rfl
           have hcz34_2 : wr.cell? ⟨gb373, 2, none⟩ = some (.slice A0_2 l0_2.length c0_2) := (blk_cell BK373.out 2).trans rfl
           have hfz34_0 := blk_frozen BK373.out 0
           have hfz34_1 := blk_frozen BK373.out 1
           have hfz34_2 := blk_frozen BK373.out 2
           go_wp2
           go_ret
           exact ⟨_, by first | rfl | (simp [errW_none, errW_some] <;> rfl) | (simp [*, errW_none, errW_some] <;> rfl), rk HO_3, bw⟩
 ·replace c3 := Bool.eq_false_iff.mpr c3
  subst c3
  have H1 : (some y374) = some r := by rw [if_neg (show ¬ (false = true) by decide)] at H; exact H
  clear H
  have H := H1
  clear H1
  obtain rfl := Option.some.inj H
  go_enter Try.func49, Try.ntmps49
  go_wp2_with (first | ((with_reducible refine gate_dst (N := 1) rfl ?_); refine box_event ?hg (N := 1) ?hd (cs := #[.slice A0_0 l0_0.length c0_0, .slice A0_1 l0_1.length c0_1, .slice A0_2 l0_2.length c0_2]) (t := 73) ?hr ?_; (case hd => rfl); (case hg => rfl); (case hr => first | (go_simp; done) | (go_simp; rfl)); intro gb373 hg w35 hbox hb; have n0_ := Aside0.mk (below_step bw hb); have n1_ := Aside0.mk (hbox); have n2_ := Aside0.mk ((by rw [hg]; exact (below_size bw) : w.heap.size ≤ gb373)); have n3_ := Aside0.mk ((by rw [hg]; exact (below_size bw) : w.heap.size ≤ gb373)); clear HB; have HB := n0_; have BK373 := n1_; have GW373 := n2_; have GE373 := n3_; clear n0_ n1_ n2_ n3_; clear hb hbox hg) | ((with_reducible refine gate_dst (N := 7) rfl ?_); refine Kd.R_lit k129 _ 129 ?hg (N := 7) ?hd (xs := ([] : List (S129))) (inner := []) (ok := fun _ => True) (okp := fun _ => True) ?hr ?hp (fun _ hk => hk) trivial (Below.refl _ _) (Nat.le_refl _) (by simp) ?_; (case hd => rfl); (case hg => rfl); (case hr => first | (go_simp; done) | (go_simp; rfl)); (case hp => exact (Reps.none _ _)); intro v375 w36 ho37 hb hg_ hnew_; clear hg_ hnew_; (first | rw [← Ny374.out] at ho37 | (simp only [Int.reduceToNat] at ho37; rw [← Ny374.out] at ho37)); have n0_ := Aside0.mk (Kd.R_lower ho37 (below_size bw)); have n1_ := bkB BK373 hb; have n2_ := Aside0.mk (below_step bw hb); clear BK373 HB; have HO376 := n0_; have BK373 := n1_; have HB := n2_; clear n0_ n1_ n2_; clear hb ho37; have hcz38_0 : w36.cell? ⟨gb373, 0, none⟩ = some (.slice A0_0 l0_0.length c0_0) := (blk_cell BK373.out 0).trans rfl; have hcz38_1 : w36.cell? ⟨gb373, 1, none⟩ = some (.slice A0_1 l0_1.length c0_1) := (blk_cell BK373.out 1).trans rfl; have hcz38_2 : w36.cell? ⟨gb373, 2, none⟩ = some (.slice A0_2 l0_2.length c0_2) := (blk_cell BK373.out 2).trans rfl; have hfz38_0 := blk_frozen BK373.out 0; have hfz38_1 := blk_frozen BK373.out 1; have hfz38_2 := blk_frozen BK373.out 2) | ((with_reducible refine gate_callee (f := 39) rfl ?_); refine goesL_ (some 9) rfl rfl Try.func39 (by kernel_rfl) rfl #[.agg #[.slice A0_0 l0_0.length c0_0, .slice A0_1 l0_1.length c0_1, .slice A0_2 l0_2.length c0_2]] rfl (by (try simp only [List.map_toArray, List.map_cons, List.map_nil]); first | done | rfl | (simp only [List.length_drop, List.length_take]; rfl)) ?_; (with_reducible refine (spec_WorkValid.calls k _ _ l0_0 _ _ l0_1 _ _ l0_2 false _ ?side1 ?side2 ?side3 ?side4 ?side5 ?side6 A2.out).mono ?_); (case side1 => exact cb HR0_0); (case side2 => exact HC0_0.out); (case side3 => exact cb HR0_1); (case side4 => exact HC0_1.out); (case side5 => exact cb HR0_2); (case side6 => exact HC0_2.out); rintro e w39 ⟨rfl, hb⟩; refine ⟨_, rfl, ?_⟩; have n0_ := rB HO376 hb; have n1_ := bkB BK373 hb; have n2_ := Aside0.mk (below_step bw hb); clear HO376 BK373 HB; have HO376 := n0_; have BK373 := n1_; have HB := n2_; clear n0_ n1_ n2_; (try clear hb); (try clear hb2); (try clear hk); (try clear hi)))
  go_ret
  exact ⟨_, by first | rfl | (simp [errW_none, errW_some] <;> rfl) | (simp [*, errW_none, errW_some] <;> rfl), rk HO376, bw⟩

/-! ### impl_Work_returns: function 91 -/
def impl_Work_returns.l0 : Nat → List (S129) → List (S112) → Int → Int → Option ((List (S129)))
 | 0, _, _, _, _ => none
 | k + 1, x3, x7, x8, x9 => if x9 < x8 then (if 0 ≤ x9 then (if x9 < (x7.length : Int) then (if x3.length < 5864062014805 then (impl_Work_returns.l0 k (x3 ++ [(⟨5, (rd_T112 x7 x9).f1, (rd_T112 x7 x9).f0⟩ : S129)]) x7 x8 (wrap64 (x9 + 1))) else (none)) else (none)) else (none)) else (some x3)
def impl_Work_returns.f (k : Nat) (l0_0 : List Bool) (l0_1 : List Bool) (l0_2 : List (S112)) : Option ((List (S129))) := impl_Work_returns.l0 k ([] : List (S129)) l0_2 (l0_2.length : Int) 0
theorem impl_Work_returns.mono_l : ∀ k, (∀ y0 y1 y2 y3, LeO (impl_Work_returns.l0 k y0 y1 y2 y3) (impl_Work_returns.l0 (k + 1) y0 y1 y2 y3))
 | 0 => fun _ _ _ _ r h => by simp [impl_Work_returns.l0] at h
 | k + 1 => by
  have ih0 := impl_Work_returns.mono_l k
  ·intro y0 y1 y2 y3
   unfold impl_Work_returns.l0
   repeat' first
   | (with_reducible exact ih0 _ _ _ _)
   | (with_reducible exact LeO.refl _)
   | (with_reducible exact LeO.none _)
   | (with_reducible refine LeO.ite ?_ ?_)
   | (with_reducible refine LeO.bind ?_ (fun _ => ?_))
   | exact ih0 _ _ _ _
   | exact LeO.none _
   | refine LeO.ite ?_ ?_
   | refine LeO.bind ?_ (fun _ => ?_)
theorem impl_Work_returns.mono : ∀ a0 a1 a2 k, LeO (impl_Work_returns.f k a0 a1 a2) (impl_Work_returns.f (k + 1) a0 a1 a2) := by
 intro a0 a1 a2 k
 have ih0 := impl_Work_returns.mono_l k
 unfold impl_Work_returns.f
 repeat' first
   | (with_reducible exact ih0 _ _ _ _)
   | (with_reducible exact LeO.refl _)
   | (with_reducible exact LeO.none _)
   | (with_reducible refine LeO.ite ?_ ?_)
   | (with_reducible refine LeO.bind ?_ (fun _ => ?_))
   | exact ih0 _ _ _ _
   | exact LeO.none _
   | refine LeO.ite ?_ ?_
   | refine LeO.bind ?_ (fun _ => ?_)
set_option maxHeartbeats 8000000 in
set_option maxRecDepth 100000 in
theorem impl_Work_returns.calls (k : Nat) (A0_0 : Option Addr) (c0_0 : Nat) (l0_0 : List Bool) (A0_1 : Option Addr) (c0_1 : Nat) (l0_1 : List Bool) (A0_2 : Option Addr) (c0_2 : Nat) (l0_2 : List (S112)) (r : List (S129)) (w : World) (hr0_0 : Kd.C Kd.bool w A0_0 l0_0.length l0_0) (hc0_0 : l0_0.length ≤ c0_0) (hr0_1 : Kd.C Kd.bool w A0_1 l0_1.length l0_1) (hc0_1 : l0_1.length ≤ c0_1) (hr0_2 : Kd.C k112 w A0_2 l0_2.length l0_2) (hc0_2 : l0_2.length ≤ c0_2) (h : impl_Work_returns.f k l0_0 l0_1 l0_2 = some r) :
  Calls Try.prog 91 #[.agg #[.slice A0_0 l0_0.length c0_0, .slice A0_1 l0_1.length c0_1, .slice A0_2 l0_2.length c0_2]] w fun e w' => ∃ v0_ : Value, e = .returned (v0_) ∧ Kd.R k129 129 w' w.heap.size (fun _ => True) v0_ r ∧ Below w.heap.size w w' := by
 have hu73 := Try.underlying73
 have hu112 := Try.underlying112
 have hu129 := Try.underlying129
 have HR0_0 := Aside0.mk hr0_0
 have HC0_0 := Aside0.mk hc0_0
 clear hr0_0 hc0_0
 have HR0_1 := Aside0.mk hr0_1
 have HC0_1 := Aside0.mk hc0_1
 clear hr0_1 hc0_1
 have HR0_2 := Aside0.mk hr0_2
 have HC0_2 := Aside0.mk hc0_2
 clear hr0_2 hc0_2
 have HB := Aside0.mk (Below.refl w.heap.size w)
 have H : (impl_Work_returns.l0 k ([] : List (S129)) l0_2 (l0_2.length : Int) 0) = some r := h
 clear h
 have H' := Aside0.mk H
 clear H
 go_enter Try.func91, Try.ntmps91
 go_wp2_with (first | ((with_reducible refine gate_dst (N := 1) rfl ?_); refine box_event ?hg (N := 1) ?hd (cs := #[.slice A0_0 l0_0.length c0_0, .slice A0_1 l0_1.length c0_1, .slice A0_2 l0_2.length c0_2]) (t := 73) ?hr ?_; (case hd => rfl); (case hg => rfl); (case hr => first | (go_simp; done) | (go_simp; rfl)); intro gb391 hg w2 hbox hb; have n0_ := Aside0.mk (below_step bw hb); have n1_ := Aside0.mk (hbox); have n2_ := Aside0.mk ((by rw [hg]; exact (below_size bw) : w.heap.size ≤ gb391)); have n3_ := Aside0.mk ((by rw [hg]; exact (below_size bw) : w.heap.size ≤ gb391)); clear HB; have HB := n0_; have BK391 := n1_; have GW391 := n2_; have GE391 := n3_; clear n0_ n1_ n2_ n3_; clear hb hbox hg; have hcz3_0 : w2.cell? ⟨gb391, 0, none⟩ = some (.slice A0_0 l0_0.length c0_0) := (blk_cell BK391.out 0).trans rfl; have hcz3_1 : w2.cell? ⟨gb391, 1, none⟩ = some (.slice A0_1 l0_1.length c0_1) := (blk_cell BK391.out 1).trans rfl; have hcz3_2 : w2.cell? ⟨gb391, 2, none⟩ = some (.slice A0_2 l0_2.length c0_2) := (blk_cell BK391.out 2).trans rfl; have hfz3_0 := blk_frozen BK391.out 0; have hfz3_1 := blk_frozen BK391.out 1; have hfz3_2 := blk_frozen BK391.out 2))
 go_loopg [3, 9] k (fun kq v3 v9 w' => ∃ (x3_1 : List (S129)) (x9_1 : Int), v9 = .int .i64 x9_1 ∧ Aside0 (impl_Work_returns.l0 kq x3_1 l0_2 (l0_2.length : Int) x9_1 = some r) ∧ Aside0 (kq ≤ k) ∧ Aside0 (Kd.R k129 129 w' w.heap.size (fun _ => True) v3 x3_1) ∧ Aside0 (w'.heap[gb391]? = some (.cells #[(.slice A0_0 l0_0.length c0_0), (.slice A0_1 l0_1.length c0_1), (.slice A0_2 l0_2.length c0_2)] 73 (0, 0))) ∧ Aside0 (Below w.heap.size w w'))
 case atStart => exact ⟨(([] : List (S129))), (0), (by first | rfl | (simp; done) | (simp [*]; done)), H', ⟨Nat.le_refl _⟩, ⟨by first | exact Kd.R_nil _ _ _ _ _ | exact Kd.N_nil _ _ _ _ _ | exact Kd.V_nil _ _ _ _ _ | exact Kd.Q_nil _ _ _ _ _ | exact Kd.S_nil _ _ _ _ _⟩, ⟨bk BK391⟩, ⟨bw⟩⟩
 case round =>
  clear H'
  try clear p2
  try clear hcz3_0
  try clear hcz3_1
  try clear hcz3_2
  try clear hfz3_0
  try clear hfz3_1
  try clear hfz3_2
  obtain ⟨x3_1, x9_1, rfl, HA, HK1, HO_3, BK391, HB⟩ := hrel
  cases gk with
  | zero => exact absurd HA.out (by simp [impl_Work_returns.l0])
  | succ k1 =>
   have H := HA.out
   clear HA
   simp only [impl_Work_returns.l0] at H
   by_cases c4 : x9_1 < (l0_2.length : Int)
   ·rw [if_pos c4] at H
    have c4b0 : decide (x9_1 < (l0_2.length : Int)) = true := decide_eq_true c4
    clear c4
    by_cases c5 : 0 ≤ x9_1
    ·rw [if_pos c5] at H
     have c5b0 : decide (0 ≤ x9_1) = true := decide_eq_true c5
     clear c5
     by_cases c6 : x9_1 < (l0_2.length : Int)
     ·rw [if_pos c6] at H
      have c6b0 : decide (x9_1 < (l0_2.length : Int)) = true := decide_eq_true c6
      clear c6
      by_cases c7 : x3_1.length < 5864062014805
      ·rw [if_pos c7] at H
       have LMc7 := Aside0.mk c7
       clear c7
       obtain ⟨y394, hy394⟩ : ∃ y_ : List (S129), y_ = (x3_1 ++ [(⟨5, (rd_T112 l0_2 x9_1).f1, (rd_T112 l0_2 x9_1).f0⟩ : S129)]) := ⟨_, rfl⟩
       replace H : (impl_Work_returns.l0 k1 y394 l0_2 (l0_2.length : Int) (wrap64 (x9_1 + 1))) = some r := by first | (rw [hy394]; with_reducible exact H) | (have H2_ := (Option.bind_some _ _).symm.trans H; rw [hy394]; with_reducible exact H2_) | (have H2_ := (Option.bind_some _ _).symm.trans H; with_reducible exact H2_) | with_reducible exact H | (rw [hy394]; exact H) | exact H
       have Ny394 := Aside0.mk hy394
       clear hy394
       have H' := Aside0.mk H
       clear H
       have p392 : 0 ≤ (x9_1 : Int) := of_decide_eq_true (by first | (with_reducible assumption) | assumption)
       have q392 : x9_1 < (l0_2.length : Int) := of_decide_eq_true (by first | (with_reducible assumption) | assumption)
       obtain ⟨ad392, e392, hx392_0, hx392_1⟩ := at_T112 HR0_2.out x9_1 p392 q392
       cases e392
       replace hx392_0 := (HB.out.cell (World.block_lt_of_cell? w _ hx392_0)).trans hx392_0
       replace hx392_1 := (HB.out.cell (World.block_lt_of_cell? w _ hx392_1)).trans hx392_1
       replace p392 := eq_true p392
       replace q392 := eq_true q392
       go_wp2_with (first | ((with_reducible refine gate_dst (N := 5) rfl ?_); refine box_event ?hg (N := 5) ?hd (cs := #[.int .i64 0, .int .i64 0]) (t := 112) ?hr ?_; (case hd => rfl); (case hg => rfl); (case hr => first | (go_simp; done) | (go_simp; rfl)); intro gb393 hg w8 hbox hb; have n0_ := rB HO_3 hb; have n1_ := bkB BK391 hb; have n2_ := Aside0.mk (below_step bw hb); have n3_ := Aside0.mk (hbox); have n4_ := Aside0.mk ((by rw [hg]; exact (below_size bw) : w.heap.size ≤ gb393)); have n5_ := Aside0.mk ((by rw [hg]; exact (below_size bw) : w.heap.size ≤ gb393)); have n6_ := Aside0.mk ((by rw [hg]; exact Nat.ne_of_lt (blk_lt (g := gb391) (o := .cells #[.slice A0_0 l0_0.length c0_0, .slice A0_1 l0_1.length c0_1, .slice (some ad392) l0_2.length c0_2] 73 (0, 0)) (bk BK391)) : gb391 ≠ gb393)); have n7_ := Aside0.mk ((by rw [hg]; exact Nat.ne_of_gt (blk_lt (g := gb391) (o := .cells #[.slice A0_0 l0_0.length c0_0, .slice A0_1 l0_1.length c0_1, .slice (some ad392) l0_2.length c0_2] 73 (0, 0)) (bk BK391)) : gb393 ≠ gb391)); clear HO_3 BK391 HB; have HO_3 := n0_; have BK391 := n1_; have HB := n2_; have BK393 := n3_; have GW393 := n4_; have GE393 := n5_; have NB391_393 := n6_; have NB393_391 := n7_; clear n0_ n1_ n2_ n3_ n4_ n5_ n6_ n7_; clear hb hbox hg; have hnb9 := NB393_391.out; have hnc9 := NB391_393.out; have hcz10_0 : w8.cell? ⟨gb393, 0, none⟩ = some (.int .i64 0) := (blk_cell BK393.out 0).trans rfl; have hcz10_1 : w8.cell? ⟨gb393, 1, none⟩ = some (.int .i64 0) := (blk_cell BK393.out 1).trans rfl; have hfz10_0 := blk_frozen BK393.out 0; have hfz10_1 := blk_frozen BK393.out 1) | ((with_reducible refine gate_builtin (b := .append) (xs := #[.tmp 13, .tmp 19]) rfl ?_); at_builtin; refine Kd.R_append k129 (w0 := w) w.heap.size rfl (.tmp 13) (.tmp 19) 83 129 (.agg #[(.int .i64 0), (.int .i64 0), (.int .i64 0)]) 24 rfl Try.underlying83 info129 rfl (by decide) (by omega) u3 x3_1 (⟨5, (rd_T112 l0_2 x9_1).f1, (rd_T112 l0_2 x9_1).f0⟩ : S129) [.int .i64 5, .int .i64 ((rd_T112 l0_2 x9_1).f1), .int .i64 ((rd_T112 l0_2 x9_1).f0)] (fun _ => True) (fun _ => False) rfl (by first | (go_simp; done) | (go_simp; rfl)) ?aP (fun _ hk => hk.elim) ?aF ?aO ?aB ?aS ?aL ?_; (case aP => exact k129_mkM _ _ _ (⟨5, (rd_T112 l0_2 x9_1).f1, (rd_T112 l0_2 x9_1).f0⟩ : S129)); (case aB => exact bw); (case aF => exact (fun _ _ => trivial)); (case aO => exact (by (with_reducible repeat (first | apply Kd.R_alloc | apply Kd.R_drewN | apply Kd.R_drew)); exact Kd.R_mono (Kd.R_far (p := ⟨gb393, 1, none⟩) (Kd.R_far (p := ⟨gb393, 0, none⟩) (Kd.R_types HO_3.out BK393.out (by decide)) (fun _ hk => by first | exact hk.2 | grind) (.int .i64 ((rd_T112 l0_2 x9_1).f0))) (fun _ hk => by first | exact hk.2 | grind) (.int .i64 ((rd_T112 l0_2 x9_1).f1))) (fun _ hk => trivial))); (case aS => exact (below_size bw)); (case aL => have := LMc7.out; omega); intro v395 w11 ho hb hg hat; rw [← Ny394.out] at ho; have n0_ := Aside0.mk (blk_grown (g := gb391) (o := .cells #[.slice A0_0 l0_0.length c0_0, .slice A0_1 l0_1.length c0_1, .slice (some ad392) l0_2.length c0_2] 73 (0, 0)) (by (with_reducible repeat (first | refine blk_drewN ?_ _ | refine blk_drew ?_ | refine blk_alloc ?_ _)); refine blk_far ?_ NB391_393.out _; (with_reducible repeat (first | refine blk_drewN ?_ _ | refine blk_drew ?_ | refine blk_alloc ?_ _)); refine blk_far ?_ NB391_393.out _; (with_reducible repeat (first | refine blk_drewN ?_ _ | refine blk_drew ?_ | refine blk_alloc ?_ _)); exact BK391.out) hg (Kd.R_ne HO_3.out BK391.out (by decide))); have n1_ := Aside0.mk (blk_grown (g := gb393) (o := .cells #[.int .i64 ((rd_T112 l0_2 x9_1).f0), .int .i64 ((rd_T112 l0_2 x9_1).f1)] 112 (0, 0)) (by (with_reducible repeat (first | refine blk_drewN ?_ _ | refine blk_drew ?_ | refine blk_alloc ?_ _)); refine blk_put (cs := #[.int .i64 ((rd_T112 l0_2 x9_1).f0), .int .i64 0]) ?_ 1 _ rfl; (with_reducible repeat (first | refine blk_drewN ?_ _ | refine blk_drew ?_ | refine blk_alloc ?_ _)); refine blk_put (cs := #[.int .i64 0, .int .i64 0]) ?_ 0 _ rfl; (with_reducible repeat (first | refine blk_drewN ?_ _ | refine blk_drew ?_ | refine blk_alloc ?_ _)); exact BK393.out) hg (Kd.R_ne HO_3.out BK393.out (by decide))); have n2_ := Aside0.mk (hb); have n3_ := Aside0.mk (ho); clear BK391 BK393 HB HO_3; have BK391 := n0_; have BK393 := n1_; have HB := n2_; have HO396 := n3_; clear n0_ n1_ n2_ n3_; clear ho hb hg hat))
       go_roundg k1
       case measure => have := HK1.out; omega
       case rel => exact ⟨(y394), (wrap64 (x9_1 + 1)), (by first | rfl | (simp; done) | (simp [*]; done)), H', ⟨by have := HK1.out; omega⟩, ⟨rk HO396⟩, ⟨bk BK391⟩, ⟨bw⟩⟩
      ·rw [if_neg c7] at H
       exact absurd H (by simp)
     ·rw [if_neg c6] at H
      exact absurd H (by simp)
    ·rw [if_neg c5] at H
     exact absurd H (by simp)
   ·rw [if_neg c4] at H
    have c4b0 : decide (x9_1 < (l0_2.length : Int)) = false := decide_eq_false c4
    clear c4
    obtain rfl := Option.some.inj H
    go_wp2
    go_ret
    exact ⟨_, by first | rfl | (simp [errW_none, errW_some] <;> rfl) | (simp [*, errW_none, errW_some] <;> rfl), rk HO_3, bw⟩

end Go.Proofs.Ytgoiihfojhpcmaa.G
