-- Printed by wip/gen.py of this session's repo, over the kit's print.py. Not trusted: Lean checks it.
import Derived.Test.YtgoiihfojhpcmaaRx0
import Derived.Test.YtgoiihfojhpcmaaSq
namespace Go.Proofs.Ytgoiihfojhpcmaa.R
open Go.RowKit Go.Proofs.YtgoiihfojhpcmaaW.PrintWords Go.Proofs.YtgoiihfojhpcmaaW.PrintLast Go.Proofs.YtgoiihfojhpcmaaW.PrintMore Go.Proofs.Ytgoiihfojhpcmaa.Sq
attribute [local go_sem] max2_int min2_int max_two min_two max_three min_three max_four min_four   -- for this text's walks alone
set_option linter.unusedVariables false
set_option linter.unusedSimpArgs false

/-! ### laws_toStep: function 68 -/
def laws_toStep.f (a0_0 : Int) (a0_1 : Bool) : Option (Int × Bool) := some (a0_0, a0_1)
set_option maxHeartbeats 8000000 in
set_option maxRecDepth 100000 in
theorem laws_toStep.calls (a0_0 : Int) (a0_1 : Bool) (r1 : Int) (r2 : Bool) (w : World) (h : laws_toStep.f a0_0 a0_1 = some (r1, r2)) :
  Calls Try.prog 68 #[.agg #[.int .i64 a0_0, .bool a0_1]] w fun e w' => e = .returned (.agg #[.int .i64 r1, .bool r2]) ∧ Below w.heap.size w w' := by
 have hu105 := Try.underlying105
 have hu98 := Try.underlying98
 have HB := Aside0.mk (Below.refl w.heap.size w)
 have H : (some (a0_0, a0_1)) = some (r1, r2) := h
 clear h
 simp only [Option.some.injEq, Prod.mk.injEq] at H
 obtain ⟨rfl, rfl⟩ := H
 go_enter Try.func68, Try.ntmps68
 have TK0_ := Aside0.mk trivial
 go_wp2_with (first | (clear TK0_; (with_reducible refine gate_dst (N := 1) rfl ?_); refine box_event ?hg (N := 1) ?hd (cs := #[.int .i64 a0_0, .bool a0_1]) (t := 105) ?hr ?_; (case hd => rfl); (case hg => rfl); (case hr => first | (go_simp; done) | (go_simp; rfl)); intro gb182 hg w2 hbox hb; have n0_ := Aside0.mk (below_step bw hb); have n1_ := Aside0.mk (hbox); have n2_ := Aside0.mk ((by rw [hg]; exact (below_size bw) : w.heap.size ≤ gb182)); have n3_ := Aside0.mk ((by rw [hg]; exact (below_size bw) : w.heap.size ≤ gb182)); clear HB; have HB := n0_; have BK182 := n1_; have GW182 := n2_; have GE182 := n3_; clear n0_ n1_ n2_ n3_; clear hb hbox hg; have TK1_ := Aside0.mk trivial) | (clear TK1_; (with_reducible refine gate_dst (N := 2) rfl ?_); refine box_event ?hg (N := 2) ?hd (cs := #[.int .i64 0, .bool false]) (t := 98) ?hr ?_; (case hd => rfl); (case hg => rfl); (case hr => first | (go_simp; done) | (go_simp; rfl)); intro gb183 hg w3 hbox hb; have n0_ := bkB BK182 hb; have n1_ := Aside0.mk (below_step bw hb); have n2_ := Aside0.mk (hbox); have n3_ := Aside0.mk ((by rw [hg]; exact (below_size bw) : w.heap.size ≤ gb183)); have n4_ := Aside0.mk ((by rw [hg]; exact (below_size bw) : w.heap.size ≤ gb183)); have n5_ := Aside0.mk ((by rw [hg]; exact Nat.ne_of_lt (blk_lt (g := gb182) (o := .cells #[.int .i64 a0_0, .bool a0_1] 105 (0, 0)) (bk BK182)) : gb182 ≠ gb183)); have n6_ := Aside0.mk ((by rw [hg]; exact Nat.ne_of_gt (blk_lt (g := gb182) (o := .cells #[.int .i64 a0_0, .bool a0_1] 105 (0, 0)) (bk BK182)) : gb183 ≠ gb182)); clear BK182 HB; have BK182 := n0_; have HB := n1_; have BK183 := n2_; have GW183 := n3_; have GE183 := n4_; have NB182_183 := n5_; have NB183_182 := n6_; clear n0_ n1_ n2_ n3_ n4_ n5_ n6_; clear hb hbox hg; have TK2_ := Aside0.mk trivial) | (clear TK2_; (with_reducible refine gate_dst (N := 3) rfl ?_); refine box_event ?hg (N := 3) ?hd (cs := #[.int .i64 0, .bool false]) (t := 98) ?hr ?_; (case hd => rfl); (case hg => rfl); (case hr => first | (go_simp; done) | (go_simp; rfl)); intro gb184 hg w4 hbox hb; have n0_ := bkB BK182 hb; have n1_ := bkB BK183 hb; have n2_ := Aside0.mk (below_step bw hb); have n3_ := Aside0.mk (hbox); have n4_ := Aside0.mk ((by rw [hg]; exact (below_size bw) : w.heap.size ≤ gb184)); have n5_ := Aside0.mk ((by rw [hg]; exact (below_size bw) : w.heap.size ≤ gb184)); have n6_ := Aside0.mk ((by rw [hg]; exact Nat.ne_of_lt (blk_lt (g := gb182) (o := .cells #[.int .i64 a0_0, .bool a0_1] 105 (0, 0)) (bk BK182)) : gb182 ≠ gb184)); have n7_ := Aside0.mk ((by rw [hg]; exact Nat.ne_of_gt (blk_lt (g := gb182) (o := .cells #[.int .i64 a0_0, .bool a0_1] 105 (0, 0)) (bk BK182)) : gb184 ≠ gb182)); have n8_ := Aside0.mk ((by rw [hg]; exact Nat.ne_of_lt (blk_lt (g := gb183) (o := .cells #[.int .i64 0, .bool false] 98 (0, 0)) (bk BK183)) : gb183 ≠ gb184)); have n9_ := Aside0.mk ((by rw [hg]; exact Nat.ne_of_gt (blk_lt (g := gb183) (o := .cells #[.int .i64 0, .bool false] 98 (0, 0)) (bk BK183)) : gb184 ≠ gb183)); clear BK182 BK183 HB; have BK182 := n0_; have BK183 := n1_; have HB := n2_; have BK184 := n3_; have GW184 := n4_; have GE184 := n5_; have NB182_184 := n6_; have NB184_182 := n7_; have NB183_184 := n8_; have NB184_183 := n9_; clear n0_ n1_ n2_ n3_ n4_ n5_ n6_ n7_ n8_ n9_; clear hb hbox hg; have hnb5 := NB182_183.out; have hnc5 := NB183_182.out; have hnb6 := NB182_184.out; have hnc6 := NB184_182.out; have hcz7_0 : w4.cell? ⟨gb182, 0, none⟩ = some (.int .i64 a0_0) := (blk_cell BK182.out 0).trans rfl; have hcz7_1 : w4.cell? ⟨gb182, 1, none⟩ = some (.bool a0_1) := (blk_cell BK182.out 1).trans rfl; have hfz7_0 := blk_frozen BK182.out 0; have hfz7_1 := blk_frozen BK182.out 1; have hnb8 := NB184_183.out; have hnc8 := NB183_184.out; have hcz9_0 : w4.cell? ⟨gb184, 0, none⟩ = some (.int .i64 0) := (blk_cell BK184.out 0).trans rfl; have hcz9_1 : w4.cell? ⟨gb184, 1, none⟩ = some (.bool false) := (blk_cell BK184.out 1).trans rfl; have hfz9_0 := blk_frozen BK184.out 0; have hfz9_1 := blk_frozen BK184.out 1; have hcz10_0 : w4.cell? ⟨gb183, 0, none⟩ = some (.int .i64 0) := (blk_cell BK183.out 0).trans rfl; have hcz10_1 : w4.cell? ⟨gb183, 1, none⟩ = some (.bool false) := (blk_cell BK183.out 1).trans rfl; have hfz10_0 := blk_frozen BK183.out 0; have hfz10_1 := blk_frozen BK183.out 1; have TK3_ := Aside0.mk trivial))
 refine bodyPost_ret (results_cell_row rfl _ _ gb183 98 #[.int .i64 a0_0, .bool a0_1] (0, 0) _ rfl (by (with_reducible repeat (first | refine blk_drewN ?_ _ | refine blk_drew ?_ | refine blk_alloc ?_ _)); refine blk_put (cs := #[.int .i64 a0_0, .bool false]) ?_ 1 _ rfl; (with_reducible repeat (first | refine blk_drewN ?_ _ | refine blk_drew ?_ | refine blk_alloc ?_ _)); refine blk_put (cs := #[.int .i64 0, .bool false]) ?_ 0 _ rfl; (with_reducible repeat (first | refine blk_drewN ?_ _ | refine blk_drew ?_ | refine blk_alloc ?_ _)); refine blk_far ?_ NB183_184.out _; (with_reducible repeat (first | refine blk_drewN ?_ _ | refine blk_drew ?_ | refine blk_alloc ?_ _)); refine blk_far ?_ NB183_184.out _; (with_reducible repeat (first | refine blk_drewN ?_ _ | refine blk_drew ?_ | refine blk_alloc ?_ _)); exact BK183.out) Try.underlying98 rfl (by kernel_rfl)) rfl ?_
 exact ⟨by first | rfl | (simp [errW_none, errW_some] <;> rfl) | (simp [*, errW_none, errW_some] <;> rfl), bw⟩

/-! ### laws_toStepS: function 31 -/
def laws_toStepS.l0 : Nat → List (S105) → List (S98) → Int → Option ((List (S98)))
 | 0, _, _, _ => none
 | k + 1, x0, x3, x4 => if x4 < (x0.length : Int) then (if 0 ≤ x4 then ((laws_toStep.f ((rd_T105 x0 x4).f0) ((rd_T105 x0 x4).f1)).bind fun bt189 => (if x4 < (x3.length : Int) then (laws_toStepS.l0 k x0 (x3.set (x4 : Int).toNat (⟨bt189.1, bt189.2⟩ : S98)) (wrap64 (x4 + 1))) else (none))) else (none)) else (some x3)
def laws_toStepS.f (k : Nat) (l0 : List (S105)) : Option ((List (S98))) := if 0 ≤ (l0.length : Int) then (if ((l0.length : Int) : Int).toNat ≤ 17592186044416 then (laws_toStepS.l0 k l0 (List.replicate ((l0.length : Int) : Int).toNat z98) 0) else (none)) else (none)
theorem laws_toStepS.mono_l : ∀ k, (∀ y0 y1 y2, LeO (laws_toStepS.l0 k y0 y1 y2) (laws_toStepS.l0 (k + 1) y0 y1 y2))
 | 0 => fun _ _ _ r h => by simp [laws_toStepS.l0] at h
 | k + 1 => by
  have ih0 := laws_toStepS.mono_l k
  ·intro y0 y1 y2
   unfold laws_toStepS.l0
   repeat' first
   | (with_reducible exact ih0 _ _ _)
   | (with_reducible exact LeO.refl _)
   | (with_reducible exact LeO.none _)
   | (with_reducible refine LeO.ite ?_ ?_)
   | (with_reducible refine LeO.bind ?_ (fun _ => ?_))
   | exact ih0 _ _ _
   | exact LeO.none _
   | refine LeO.ite ?_ ?_
   | refine LeO.bind ?_ (fun _ => ?_)
theorem laws_toStepS.mono : ∀ a0 k, LeO (laws_toStepS.f k a0) (laws_toStepS.f (k + 1) a0) := by
 intro a0 k
 have ih0 := laws_toStepS.mono_l k
 unfold laws_toStepS.f
 repeat' first
   | (with_reducible exact ih0 _ _ _)
   | (with_reducible exact LeO.refl _)
   | (with_reducible exact LeO.none _)
   | (with_reducible refine LeO.ite ?_ ?_)
   | (with_reducible refine LeO.bind ?_ (fun _ => ?_))
   | exact ih0 _ _ _
   | exact LeO.none _
   | refine LeO.ite ?_ ?_
   | refine LeO.bind ?_ (fun _ => ?_)
set_option maxHeartbeats 8000000 in
set_option maxRecDepth 100000 in
theorem laws_toStepS.calls (k : Nat) (A0 : Option Addr) (c0 : Nat) (l0 : List (S105)) (r : List (S98)) (w : World) (hr0 : Kd.C k105 w A0 l0.length l0) (hc0 : l0.length ≤ c0) (h : laws_toStepS.f k l0 = some r) :
  Calls Try.prog 31 #[.slice A0 l0.length c0] w fun e w' => ∃ v0_ : Value, e = .returned (v0_) ∧ Kd.R k98 98 w' w.heap.size (fun _ => True) v0_ r ∧ Below w.heap.size w w' := by
 have hu105 := Try.underlying105
 have hu98 := Try.underlying98
 have HR0 := Aside0.mk hr0
 have HC0 := Aside0.mk hc0
 clear hr0 hc0
 have HB := Aside0.mk (Below.refl w.heap.size w)
 have H : (if 0 ≤ (l0.length : Int) then (if ((l0.length : Int) : Int).toNat ≤ 17592186044416 then (laws_toStepS.l0 k l0 (List.replicate ((l0.length : Int) : Int).toNat z98) 0) else (none)) else (none)) = some r := h
 clear h
 by_cases c2 : 0 ≤ (l0.length : Int)
 ·rw [if_pos c2] at H
  have c2b0 := eq_true c2
  have c2b1 : decide (0 ≤ (l0.length : Int)) = true := decide_eq_true c2
  clear c2
  by_cases c3 : ((l0.length : Int) : Int).toNat ≤ 17592186044416
  ·rw [if_pos c3] at H
   have c3b0 := eq_true c3
   have c3b1 : decide (((l0.length : Int) : Int).toNat ≤ 17592186044416) = true := decide_eq_true c3
   clear c3
   obtain ⟨y185, hy185⟩ : ∃ y_ : List (S98), y_ = (List.replicate ((l0.length : Int) : Int).toNat z98) := ⟨_, rfl⟩
   replace H : (laws_toStepS.l0 k l0 y185 0) = some r := by first | (rw [hy185]; with_reducible exact H) | (have H2_ := (Option.bind_some _ _).symm.trans H; rw [hy185]; with_reducible exact H2_) | (have H2_ := (Option.bind_some _ _).symm.trans H; with_reducible exact H2_) | with_reducible exact H | (rw [hy185]; exact H) | exact H
   have Ny185 := Aside0.mk hy185
   clear hy185
   have H' := Aside0.mk H
   clear H
   go_enter Try.func31, Try.ntmps31
   go_wp2_with (first | ((with_reducible refine gate_dst (N := 7) rfl ?_); refine Kd.R_make k98 _ 98 rfl (N := 7) rfl 30 _ _ rfl (l0.length : Int) rfl rfl Try.underlying30 (.agg #[(.int .i64 0), (.bool false)]) 16 info98 rfl (by decide) (by omega) z98 (ok := fun _ => True) (okp := fun _ => True) (k98_mkM _ _ _ z98 ) (fun _ hk => by first | exact hk | grind) trivial (of_decide_eq_true (by first | (with_reducible assumption) | assumption)) (Nat.le_trans (Nat.mul_le_mul_right _ (of_decide_eq_true (by first | (with_reducible assumption) | assumption) : (l0.length : Int).toNat ≤ 17592186044416)) (by omega)) (Below.refl _ _) (Nat.le_refl _) ?_; intro v186 w4 ho5 hb hg_ hnew_; clear hg_ hnew_; (first | rw [← Ny185.out] at ho5 | (simp only [Int.reduceToNat] at ho5; rw [← Ny185.out] at ho5)); have n0_ := Aside0.mk (Kd.R_lower ho5 (below_size bw)); have n1_ := Aside0.mk (below_step bw hb); clear HB; have HO187 := n0_; have HB := n1_; clear n0_ n1_; clear hb ho5))
   go_loopg [4] k (fun kq v4 w' => ∃ (x3_1 : List (S98)) (x4_1 : Int), v4 = .int .i64 x4_1 ∧ Aside0 (laws_toStepS.l0 kq l0 x3_1 x4_1 = some r) ∧ Aside0 (kq ≤ k) ∧ Aside0 (Kd.R k98 98 w' w.heap.size (fun _ => True) v186 x3_1) ∧ Aside0 (Below w.heap.size w w'))
   case atStart => exact ⟨(y185), (0), (by first | rfl | (simp; done) | (simp [*]; done)), H', ⟨Nat.le_refl _⟩, ⟨rk HO187⟩, ⟨bw⟩⟩
   case round =>
    clear H'
    try clear c2
    try clear c2b0
    try clear c2b1
    try clear p2
    try clear c3
    try clear c3b0
    try clear c3b1
    obtain ⟨x3_1, x4_1, rfl, HA, HK1, HO_3, HB⟩ := hrel
    cases gk with
    | zero => exact absurd HA.out (by simp [laws_toStepS.l0])
    | succ k1 =>
     have H := HA.out
     clear HA
     simp only [laws_toStepS.l0] at H
     by_cases c6 : x4_1 < (l0.length : Int)
     ·rw [if_pos c6] at H
      have c6b0 : decide (x4_1 < (l0.length : Int)) = true := decide_eq_true c6
      clear c6
      by_cases c7 : 0 ≤ x4_1
      ·rw [if_pos c7] at H
       have c7b0 : decide (0 ≤ x4_1) = true := decide_eq_true c7
       clear c7
       replace H := Option.bind_eq_some_iff.mp H
       obtain ⟨⟨t189, t190⟩, A80, H⟩ := H
       replace H : (if x4_1 < (x3_1.length : Int) then (laws_toStepS.l0 k1 l0 (x3_1.set (x4_1 : Int).toNat (⟨t189, t190⟩ : S98)) (wrap64 (x4_1 + 1))) else (none)) = some r := H
       have A8 := Aside0.mk A80
       clear A80
       by_cases c9 : x4_1 < (x3_1.length : Int)
       ·rw [if_pos c9] at H
        have c9b0 : decide (x4_1 < (x3_1.length : Int)) = true := decide_eq_true c9
        clear c9
        obtain ⟨y191, hy191⟩ : ∃ y_ : List (S98), y_ = (x3_1.set (x4_1 : Int).toNat (⟨t189, t190⟩ : S98)) := ⟨_, rfl⟩
        replace H : (laws_toStepS.l0 k1 l0 y191 (wrap64 (x4_1 + 1))) = some r := by first | (rw [hy191]; with_reducible exact H) | (have H2_ := (Option.bind_some _ _).symm.trans H; rw [hy191]; with_reducible exact H2_) | (have H2_ := (Option.bind_some _ _).symm.trans H; with_reducible exact H2_) | with_reducible exact H | (rw [hy191]; exact H) | exact H
        have Ny191 := Aside0.mk hy191
        clear hy191
        have H' := Aside0.mk H
        clear H
        have p188 : 0 ≤ (x4_1 : Int) := of_decide_eq_true (by first | (with_reducible assumption) | assumption)
        have q188 : x4_1 < (l0.length : Int) := of_decide_eq_true (by first | (with_reducible assumption) | assumption)
        obtain ⟨ad188, e188, hx188_0, hx188_1⟩ := at_T105 HR0.out x4_1 p188 q188
        cases e188
        replace hx188_0 := (HB.out.cell (World.block_lt_of_cell? w _ hx188_0)).trans hx188_0
        replace hx188_1 := (HB.out.cell (World.block_lt_of_cell? w _ hx188_1)).trans hx188_1
        replace p188 := eq_true p188
        replace q188 := eq_true q188
        go_wp2_with (first | ((with_reducible refine gate_callee (f := 68) rfl ?_); refine goesL_ (some 20) rfl rfl Try.func68 (by kernel_rfl) rfl #[.agg #[.int .i64 ((rd_T105 l0 x4_1).f0), .bool ((rd_T105 l0 x4_1).f1)]] rfl (by (try simp only [List.map_toArray, List.map_cons, List.map_nil]); first | done | rfl | (simp only [List.length_drop, List.length_take]; rfl)) ?_; (with_reducible refine (laws_toStep.calls ((rd_T105 l0 x4_1).f0) ((rd_T105 l0 x4_1).f1) t189 t190 _ A8.out).mono ?_); rintro e w11 ⟨rfl, hb⟩; refine ⟨_, rfl, ?_⟩; have n0_ := rB HO_3 hb; have n1_ := Aside0.mk (below_step bw hb); clear HO_3 HB; have HO_3 := n0_; have HB := n1_; clear n0_ n1_; (try clear hb); (try clear hb2); (try clear hk); (try clear hi); have p10 : 0 ≤ (x4_1 : Int) := of_decide_eq_true (by first | (with_reducible assumption) | assumption); have q10 : (x4_1 : Int) < ((x3_1.length : Int) : Int) := of_decide_eq_true (by first | (with_reducible assumption) | assumption); obtain ⟨go10, co10, eo10, gb10, gl10, cl10, HG10⟩ := Kd.R_form HO_3.out (by omega); (first | cases eo10 | (injection eo10 with ea_ en_ ec_; (first | subst ea_ | (injection ea_ with ea_; subst ea_)); subst ec_; clear en_)); have GB10 := Aside0.mk gb10; have GG10 := Aside0.mk HG10; clear gb10 gl10 HG10; obtain ⟨ce10, hcl10, hM10, hcc10, hfr10⟩ := Kd.R_elem HO_3.out z98 (x4_1 : Int) p10 q10; obtain rfl := k98_openM hM10; have hx10_0 : w11.cell? ⟨go10, (x4_1 : Int).toNat * 2, none⟩ = some (.int .i64 ((rd_T98 x3_1 x4_1).f0)) := hcc10 0 _ rfl; have hx10_1 : w11.cell? ⟨go10, (x4_1 : Int).toNat * 2 + 1, none⟩ = some (.bool ((rd_T98 x3_1 x4_1).f1)) := hcc10 1 _ rfl; have hf10_0 : w11.frozen? ⟨go10, (x4_1 : Int).toNat * 2, none⟩ = false := hfr10 0; have hf10_1 : w11.frozen? ⟨go10, (x4_1 : Int).toNat * 2 + 1, none⟩ = false := hfr10 1; clear hcl10 hcc10 hfr10 hM10; replace p10 := eq_true p10; replace q10 := eq_true q10; have HX12 := Aside0.mk (show Kd.R k98 98 w11 w.heap.size (fun _ => True) (.slice (some ⟨go10, 0, none⟩) x3_1.length co10) x3_1 from (rk HO_3)); obtain ⟨ce12, hcl12, hM12, hcc12, hfr12⟩ := Kd.R_elem HX12.out z98 (x4_1 : Int) (of_decide_eq_true (by first | (with_reducible assumption) | assumption)) (by have h_ : (x4_1 : Int) < ((x3_1.length : Int) : Int) := of_decide_eq_true (by first | (with_reducible assumption) | assumption); first | exact h_ | (have e_ := (Kd.R_reads' HO_3.out).1; omega) | simpa using h_); obtain rfl := k98_openM hM12; have HP12 := Kd.R_seg HX12.out (x4_1 : Int) (of_decide_eq_true (by first | (with_reducible assumption) | assumption)) (by have h_ : (x4_1 : Int) < ((x3_1.length : Int) : Int) := of_decide_eq_true (by first | (with_reducible assumption) | assumption); first | exact h_ | (have e_ := (Kd.R_reads' HO_3.out).1; omega) | simpa using h_) (seg := [.int .i64 t189, .bool t190]) (j := 0) hcl12 hcc12 (show 2 ≤ 2 from by decide) (x' := (⟨t189, t190⟩ : S98)) (k98_mkM _ _ _ (⟨t189, t190⟩ : S98) ) (fun _ hk => by first | exact hk | grind); have hx12_0 := hcc12 0 _ rfl; (try simp only [show (k98).sz = 2 from rfl, Nat.mul_one, Nat.add_zero] at hx12_0); have hf12_0 := hfr12 0; (try simp only [show (k98).sz = 2 from rfl, Nat.mul_one, Nat.add_zero] at hf12_0); have hx12_1 := hcc12 1 _ rfl; (try simp only [show (k98).sz = 2 from rfl, Nat.mul_one, Nat.add_zero] at hx12_1); have hf12_1 := hfr12 1; (try simp only [show (k98).sz = 2 from rfl, Nat.mul_one, Nat.add_zero] at hf12_1); clear hcl12 hcc12 hfr12 hM12) | ((with_reducible refine gate_store (t := 98) (p := 21) rfl ?_); refine store_event (t := 98) (p := 21) (v := ?vo_w13) (w1 := ((w11.setCell ⟨go10, (x4_1 : Int).toNat * 2, none⟩ (.int .i64 t189)).setCell ⟨go10, (x4_1 : Int).toNat * 2 + 1, none⟩ (.bool t190))) ?hg ?ho ?hn ?hr ?_; (case ho => rfl); (case hg => rfl); (case hn => rfl); (case hr => first | (go_simp; done) | (go_simp; rfl)); intro w13 hw; have hg : w11.grownBy w13 (some go10) := (by rw [hw]; exact HP12.2); have hp_ : Kd.R k98 98 w13 w.heap.size (fun _ => True) (.slice (some ⟨go10, 0, none⟩) x3_1.length co10) y191 := (by rw [hw, Ny191.out]; exact HP12.1); clear HP12; have n0_ := Aside0.mk (hp_); have n1_ := Aside0.mk ((by rw [hw]; exact below_set (below_set (HB.out) GB10.out) GB10.out : Below w.heap.size w w13)); clear HO_3 HB; have HO_3 := n0_; have HB := n1_; clear n0_ n1_; clear hg hw hp_))
        go_roundg k1
        case measure => have := HK1.out; omega
        case rel => exact ⟨(y191), (wrap64 (x4_1 + 1)), (by first | rfl | (simp; done) | (simp [*]; done)), H', ⟨by have := HK1.out; omega⟩, ⟨rk HO_3⟩, ⟨bw⟩⟩
       ·rw [if_neg c9] at H
        exact absurd H (by simp)
      ·rw [if_neg c7] at H
       exact absurd H (by simp)
     ·rw [if_neg c6] at H
      have c6b0 : decide (x4_1 < (l0.length : Int)) = false := decide_eq_false c6
      clear c6
      obtain rfl := Option.some.inj H
      go_wp2
      go_ret
      exact ⟨_, by first | rfl | (simp [errW_none, errW_some] <;> rfl) | (simp [*, errW_none, errW_some] <;> rfl), rk HO_3, bw⟩
  ·rw [if_neg c3] at H
   exact absurd H (by simp)
 ·rw [if_neg c2] at H
  exact absurd H (by simp)

/-! ### impl_Net_hasBus: function 125 -/
def impl_Net_hasBus.f (a0_0 : Int) (l0_1 : List (S139)) (a1 : Int) : Option (Bool) := if a1 ≥ 0 then (some (decide (a1 < a0_0))) else (some false)
set_option maxHeartbeats 8000000 in
set_option maxRecDepth 100000 in
theorem impl_Net_hasBus.calls (a0_0 : Int) (A0_1 : Option Addr) (c0_1 : Nat) (l0_1 : List (S139)) (a1 : Int) (r : Bool) (w : World) (hr0_1 : Kd.C k139 w A0_1 l0_1.length l0_1) (hc0_1 : l0_1.length ≤ c0_1) (h : impl_Net_hasBus.f a0_0 l0_1 a1 = some r) :
  Calls Try.prog 125 #[.agg #[.int .i64 a0_0, .slice A0_1 l0_1.length c0_1], .int .i64 a1] w fun e w' => e = .returned (.bool r) ∧ Below w.heap.size w w' := by
 have hu35 := Try.underlying35
 have HR0_1 := Aside0.mk hr0_1
 have HC0_1 := Aside0.mk hc0_1
 clear hr0_1 hc0_1
 have HB := Aside0.mk (Below.refl w.heap.size w)
 have H : (if a1 ≥ 0 then (some (decide (a1 < a0_0))) else (some false)) = some r := h
 clear h
 by_cases c3 : a1 ≥ 0
 ·rw [if_pos c3] at H
  have c3b0 : decide (0 ≤ a1) = true := decide_eq_true c3
  clear c3
  obtain rfl := Option.some.inj H
  go_enter Try.func125, Try.ntmps125
  go_wp2_with (first | ((with_reducible refine gate_dst (N := 2) rfl ?_); refine box_event ?hg (N := 2) ?hd (cs := #[.int .i64 a0_0, .slice A0_1 l0_1.length c0_1]) (t := 35) ?hr ?_; (case hd => rfl); (case hg => rfl); (case hr => first | (go_simp; done) | (go_simp; rfl)); intro gb192 hg w4 hbox hb; have n0_ := Aside0.mk (below_step bw hb); have n1_ := Aside0.mk (hbox); have n2_ := Aside0.mk ((by rw [hg]; exact (below_size bw) : w.heap.size ≤ gb192)); have n3_ := Aside0.mk ((by rw [hg]; exact (below_size bw) : w.heap.size ≤ gb192)); clear HB; have HB := n0_; have BK192 := n1_; have GW192 := n2_; have GE192 := n3_; clear n0_ n1_ n2_ n3_; clear hb hbox hg; have hcz5_0 : w4.cell? ⟨gb192, 0, none⟩ = some (.int .i64 a0_0) := (blk_cell BK192.out 0).trans rfl; have hcz5_1 : w4.cell? ⟨gb192, 1, none⟩ = some (.slice A0_1 l0_1.length c0_1) := (blk_cell BK192.out 1).trans rfl; have hfz5_0 := blk_frozen BK192.out 0; have hfz5_1 := blk_frozen BK192.out 1))
  go_ret
  exact ⟨by first | rfl | (simp [errW_none, errW_some] <;> rfl) | (simp [*, errW_none, errW_some] <;> rfl), bw⟩
 ·rw [if_neg c3] at H
  have c3b0 : decide (0 ≤ a1) = false := decide_eq_false c3
  clear c3
  obtain rfl := Option.some.inj H
  go_enter Try.func125, Try.ntmps125
  go_wp2_with (first | ((with_reducible refine gate_dst (N := 2) rfl ?_); refine box_event ?hg (N := 2) ?hd (cs := #[.int .i64 a0_0, .slice A0_1 l0_1.length c0_1]) (t := 35) ?hr ?_; (case hd => rfl); (case hg => rfl); (case hr => first | (go_simp; done) | (go_simp; rfl)); intro gb192 hg w6 hbox hb; have n0_ := Aside0.mk (below_step bw hb); have n1_ := Aside0.mk (hbox); have n2_ := Aside0.mk ((by rw [hg]; exact (below_size bw) : w.heap.size ≤ gb192)); have n3_ := Aside0.mk ((by rw [hg]; exact (below_size bw) : w.heap.size ≤ gb192)); clear HB; have HB := n0_; have BK192 := n1_; have GW192 := n2_; have GE192 := n3_; clear n0_ n1_ n2_ n3_; clear hb hbox hg))
  go_ret
  exact ⟨by first | rfl | (simp [errW_none, errW_some] <;> rfl) | (simp [*, errW_none, errW_some] <;> rfl), bw⟩

/-! ### impl_NetValid: function 108 -/
mutual
def impl_NetValid.j0 : Nat → Bool → Int → List (S139) → Option (Bool)
 | 0, _, _, _ => none
 | k + 1, x18, x194000, x194001 => if x18 = true then (some false) else (impl_NetValid.l0 k x194001 (x194001.length : Int) 0 x194000 x194001)
def impl_NetValid.l0 : Nat → List (S139) → Int → Int → Int → List (S139) → Option (Bool)
 | 0, _, _, _, _, _ => none
 | k + 1, x20, x21, x22, x194000, x194001 => if x22 < x21 then (if 0 ≤ x22 then (if x22 < (x20.length : Int) then ((impl_Net_hasBus.f x194000 x194001 ((rd_T139 x20 x22).f0)).bind fun t196 => (if t196 = true then ((impl_Net_hasBus.f x194000 x194001 ((rd_T139 x20 x22).f1)).bind fun t197 => (if t197 = true then (if ((rd_T139 x20 x22).f0) = ((rd_T139 x20 x22).f1) then (some false) else (if ((rd_T139 x20 x22).f2) < 1 then (some false) else (if ((rd_T139 x20 x22).f2) > 999 then (some false) else (impl_NetValid.l0 k x20 x21 (wrap64 (x22 + 1)) x194000 x194001)))) else (some false))) else (some false))) else (none)) else (none)) else (some true)
end
def impl_NetValid.f (k : Nat) (a0_0 : Int) (l0_1 : List (S139)) : Option (Bool) := if a0_0 < 1 then (impl_NetValid.j0 k true a0_0 l0_1) else (if a0_0 > 8 then (impl_NetValid.j0 k true a0_0 l0_1) else (impl_NetValid.j0 k (decide ((l0_1.length : Int) > 10)) a0_0 l0_1))
theorem impl_NetValid.mono_l : ∀ k, (∀ y0 y1 y2, LeO (impl_NetValid.j0 k y0 y1 y2) (impl_NetValid.j0 (k + 1) y0 y1 y2)) ∧ (∀ y0 y1 y2 y3 y4, LeO (impl_NetValid.l0 k y0 y1 y2 y3 y4) (impl_NetValid.l0 (k + 1) y0 y1 y2 y3 y4))
 | 0 => ⟨fun _ _ _ r h => by simp [impl_NetValid.j0] at h, fun _ _ _ _ _ r h => by simp [impl_NetValid.l0] at h⟩
 | k + 1 => by
  obtain ⟨ih0, ih1⟩ := impl_NetValid.mono_l k
  refine ⟨?_, ?_⟩
  ·intro y0 y1 y2
   unfold impl_NetValid.j0
   repeat' first
   | (with_reducible exact ih0 _ _ _)
   | (with_reducible exact ih1 _ _ _ _ _)
   | (with_reducible exact LeO.refl _)
   | (with_reducible exact LeO.none _)
   | (with_reducible refine LeO.ite ?_ ?_)
   | (with_reducible refine LeO.bind ?_ (fun _ => ?_))
   | exact ih0 _ _ _
   | exact ih1 _ _ _ _ _
   | exact LeO.none _
   | refine LeO.ite ?_ ?_
   | refine LeO.bind ?_ (fun _ => ?_)
  ·intro y0 y1 y2 y3 y4
   unfold impl_NetValid.l0
   repeat' first
   | (with_reducible exact ih0 _ _ _)
   | (with_reducible exact ih1 _ _ _ _ _)
   | (with_reducible exact LeO.refl _)
   | (with_reducible exact LeO.none _)
   | (with_reducible refine LeO.ite ?_ ?_)
   | (with_reducible refine LeO.bind ?_ (fun _ => ?_))
   | exact ih0 _ _ _
   | exact ih1 _ _ _ _ _
   | exact LeO.none _
   | refine LeO.ite ?_ ?_
   | refine LeO.bind ?_ (fun _ => ?_)
theorem impl_NetValid.mono : ∀ a0 a1 k, LeO (impl_NetValid.f k a0 a1) (impl_NetValid.f (k + 1) a0 a1) := by
 intro a0 a1 k
 obtain ⟨ih0, ih1⟩ := impl_NetValid.mono_l k
 unfold impl_NetValid.f
 repeat' first
   | (with_reducible exact ih0 _ _ _)
   | (with_reducible exact ih1 _ _ _ _ _)
   | (with_reducible exact LeO.refl _)
   | (with_reducible exact LeO.none _)
   | (with_reducible refine LeO.ite ?_ ?_)
   | (with_reducible refine LeO.bind ?_ (fun _ => ?_))
   | exact ih0 _ _ _
   | exact ih1 _ _ _ _ _
   | exact LeO.none _
   | refine LeO.ite ?_ ?_
   | refine LeO.bind ?_ (fun _ => ?_)
set_option maxHeartbeats 8000000 in
set_option maxRecDepth 100000 in
theorem impl_NetValid.calls (k : Nat) (a0_0 : Int) (A0_1 : Option Addr) (c0_1 : Nat) (l0_1 : List (S139)) (r : Bool) (w : World) (hr0_1 : Kd.C k139 w A0_1 l0_1.length l0_1) (hc0_1 : l0_1.length ≤ c0_1) (h : impl_NetValid.f k a0_0 l0_1 = some r) :
  Calls Try.prog 108 #[.agg #[.int .i64 a0_0, .slice A0_1 l0_1.length c0_1]] w fun e w' => e = .returned (.bool r) ∧ Below w.heap.size w w' := by
 have hu35 := Try.underlying35
 have hu139 := Try.underlying139
 have HR0_1 := Aside0.mk hr0_1
 have HC0_1 := Aside0.mk hc0_1
 clear hr0_1 hc0_1
 have HB := Aside0.mk (Below.refl w.heap.size w)
 have H : (if a0_0 < 1 then (impl_NetValid.j0 k true a0_0 l0_1) else (if a0_0 > 8 then (impl_NetValid.j0 k true a0_0 l0_1) else (impl_NetValid.j0 k (decide ((l0_1.length : Int) > 10)) a0_0 l0_1))) = some r := h
 clear h
 have HC2 := Aside0.mk H
 clear H
 go_enter Try.func108, Try.ntmps108
 go_upto_region 1 with (first | ((with_reducible refine gate_dst (N := 1) rfl ?_); (try (refine gate_guard (by rfl) ?_; dsimp only)); refine box_event ?hg (N := 1) ?hd (cs := #[.int .i64 a0_0, .slice A0_1 l0_1.length c0_1]) (t := 35) ?hr ?_; (case hd => rfl); (case hg => rfl); (case hr => first | (go_simp; done) | (go_simp; rfl)); intro gb193 hg w3 hbox hb; have n0_ := Aside0.mk (below_step bw hb); have n1_ := Aside0.mk (hbox); have n2_ := Aside0.mk ((by rw [hg]; exact (below_size bw) : w.heap.size ≤ gb193)); have n3_ := Aside0.mk ((by rw [hg]; exact (below_size bw) : w.heap.size ≤ gb193)); clear HB; have HB := n0_; have BK193 := n1_; have GW193 := n2_; have GE193 := n3_; clear n0_ n1_ n2_ n3_; clear hb hbox hg))
 (try simp only [Act.put, List.setIfInBounds_toArray, List.set_cons_zero, List.set_cons_succ])
 go_cut [18] (fun v18 wc => ∃ (kq : Nat) (x18_1 : Bool), v18 = .bool x18_1 ∧ Aside0 (impl_NetValid.j0 kq x18_1 a0_0 l0_1 = some r) ∧ Aside0 (kq ≤ k) ∧ Aside0 (wc.heap[gb193]? = some (.cells #[.int .i64 a0_0, (.slice A0_1 l0_1.length c0_1)] 35 (0, 0))) ∧ Aside0 (Below w.heap.size w wc))
 case first =>
  have H := HC2.out
  clear HC2
  by_cases c4 : a0_0 < 1
  ·rw [if_pos c4] at H
   have c4b0 : decide (a0_0 < 1) = true := decide_eq_true c4
   clear c4
   (first | rw [c4b0] | (simp only [i64_w, i32_w]; rw [c4b0]) | skip)
   have H' := Aside0.mk H
   clear H
   have hcz5_0 : w3.cell? ⟨gb193, 0, none⟩ = some (.int .i64 a0_0) := (blk_cell BK193.out 0).trans rfl
   have hcz5_1 : w3.cell? ⟨gb193, 1, none⟩ = some (.slice A0_1 l0_1.length c0_1) := (blk_cell BK193.out 1).trans rfl
   have hfz5_0 := blk_frozen BK193.out 0
   have hfz5_1 := blk_frozen BK193.out 1
   go_wp2
   go_meet
   case rel => exact ⟨_, (true), (by first | rfl | (simp; done) | (simp [*]; done)), H', ⟨by first | omega | exact Nat.le_refl _⟩, ⟨bk BK193⟩, ⟨bw⟩⟩
  ·rw [if_neg c4] at H
   have c4b0 : decide (a0_0 < 1) = false := decide_eq_false c4
   clear c4
   (first | rw [c4b0] | (simp only [i64_w, i32_w]; rw [c4b0]) | skip)
   by_cases c6 : a0_0 > 8
   ·rw [if_pos c6] at H
    have c6b0 : decide (8 < a0_0) = true := decide_eq_true c6
    clear c6
    have H' := Aside0.mk H
    clear H
    have hcz7_0 : w3.cell? ⟨gb193, 0, none⟩ = some (.int .i64 a0_0) := (blk_cell BK193.out 0).trans rfl
    have hcz7_1 : w3.cell? ⟨gb193, 1, none⟩ = some (.slice A0_1 l0_1.length c0_1) := (blk_cell BK193.out 1).trans rfl
    have hfz7_0 := blk_frozen BK193.out 0
    have hfz7_1 := blk_frozen BK193.out 1
    go_wp2
    go_meet
    case rel => exact ⟨_, (true), (by first | rfl | (simp; done) | (simp [*]; done)), H', ⟨by first | omega | exact Nat.le_refl _⟩, ⟨bk BK193⟩, ⟨bw⟩⟩
   ·rw [if_neg c6] at H
    have c6b0 : decide (8 < a0_0) = false := decide_eq_false c6
    clear c6
    have H' := Aside0.mk H
    clear H
    have hcz8_0 : w3.cell? ⟨gb193, 0, none⟩ = some (.int .i64 a0_0) := (blk_cell BK193.out 0).trans rfl
    have hcz8_1 : w3.cell? ⟨gb193, 1, none⟩ = some (.slice A0_1 l0_1.length c0_1) := (blk_cell BK193.out 1).trans rfl
    have hfz8_0 := blk_frozen BK193.out 0
    have hfz8_1 := blk_frozen BK193.out 1
    go_wp2
    go_meet
    case rel => exact ⟨_, (decide ((l0_1.length : Int) > 10)), (by first | rfl | (simp; done) | (simp [*]; done)), H', ⟨by first | omega | exact Nat.le_refl _⟩, ⟨bk BK193⟩, ⟨bw⟩⟩
 case rest =>
  clear HC2
  try clear c1
  try clear p2
  try clear c4
  try clear c4b0
  try clear c6
  try clear c6b0
  try clear hcz5_0
  try clear hcz5_1
  try clear hcz7_0
  try clear hcz7_1
  try clear hcz8_0
  try clear hcz8_1
  try clear hfz5_0
  try clear hfz5_1
  try clear hfz7_0
  try clear hfz7_1
  try clear hfz8_0
  try clear hfz8_1
  obtain ⟨kq, x18_1, rfl, HA, HJ1, BK193, HB⟩ := hcut
  cases kq with
  | zero => exact absurd HA.out (by simp [impl_NetValid.j0])
  | succ kj1 =>
   have H := HA.out
   clear HA
   simp only [impl_NetValid.j0] at H
   by_cases c9 : x18_1 = true
   ·subst c9
    have H1 : (some false) = some r := by rw [if_pos rfl] at H; exact H
    clear H
    have H := H1
    clear H1
    obtain rfl := Option.some.inj H
    go_wp2
    go_ret
    exact ⟨by first | rfl | (simp [errW_none, errW_some] <;> rfl) | (simp [*, errW_none, errW_some] <;> rfl), bw⟩
   ·replace c9 := Bool.eq_false_iff.mpr c9
    subst c9
    have H1 : (impl_NetValid.l0 kj1 l0_1 (l0_1.length : Int) 0 a0_0 l0_1) = some r := by rw [if_neg (show ¬ (false = true) by decide)] at H; exact H
    clear H
    have H := H1
    clear H1
    have H' := Aside0.mk H
    clear H
    have hcz10_0 : wc.cell? ⟨gb193, 0, none⟩ = some (.int .i64 a0_0) := (blk_cell BK193.out 0).trans rfl
    have hcz10_1 : wc.cell? ⟨gb193, 1, none⟩ = some (.slice A0_1 l0_1.length c0_1) := (blk_cell BK193.out 1).trans rfl
    have hfz10_0 := blk_frozen BK193.out 0
    have hfz10_1 := blk_frozen BK193.out 1
    go_wp2
    go_loopg [22] kj1 (fun kq v22 w' => ∃ (x22_2 : Int), v22 = .int .i64 x22_2 ∧ Aside0 (impl_NetValid.l0 kq l0_1 (l0_1.length : Int) x22_2 a0_0 l0_1 = some r) ∧ Aside0 (kq ≤ kj1) ∧ Aside0 (w'.heap[gb193]? = some (.cells #[.int .i64 a0_0, (.slice A0_1 l0_1.length c0_1)] 35 (0, 0))) ∧ Aside0 (Below w.heap.size w w'))
    case atStart => exact ⟨(0), (by first | rfl | (simp; done) | (simp [*]; done)), H', ⟨Nat.le_refl _⟩, ⟨bk BK193⟩, ⟨bw⟩⟩
    case round =>
     clear H'
     try clear c1
     try clear p2
     try clear c4
     try clear c4b0
     try clear c6
     try clear c6b0
     try clear c9
     try clear c10
     try clear hcz10_0
     try clear hcz10_1
     try clear hcz5_0
     try clear hcz5_1
     try clear hcz7_0
     try clear hcz7_1
     try clear hcz8_0
     try clear hcz8_1
     try clear hfz10_0
     try clear hfz10_1
     try clear hfz5_0
     try clear hfz5_1
     try clear hfz7_0
     try clear hfz7_1
     try clear hfz8_0
     try clear hfz8_1
     try clear p2
     obtain ⟨x22_2, rfl, HA, HK2, BK193, HB⟩ := hrel
     cases gk with
     | zero => exact absurd HA.out (by simp [impl_NetValid.l0])
     | succ k2 =>
      have H := HA.out
      clear HA
      simp only [impl_NetValid.l0] at H
      by_cases c11 : x22_2 < (l0_1.length : Int)
      ·rw [if_pos c11] at H
       have c11b0 : decide (x22_2 < (l0_1.length : Int)) = true := decide_eq_true c11
       clear c11
       by_cases c12 : 0 ≤ x22_2
       ·rw [if_pos c12] at H
        have c12b0 : decide (0 ≤ x22_2) = true := decide_eq_true c12
        clear c12
        by_cases c13 : x22_2 < (l0_1.length : Int)
        ·rw [if_pos c13] at H
         have c13b0 : decide (x22_2 < (l0_1.length : Int)) = true := decide_eq_true c13
         clear c13
         replace H := Option.bind_eq_some_iff.mp H
         obtain ⟨t196, A140, H⟩ := H
         replace H : (if t196 = true then ((impl_Net_hasBus.f a0_0 l0_1 ((rd_T139 l0_1 x22_2).f1)).bind fun t197 => (if t197 = true then (if ((rd_T139 l0_1 x22_2).f0) = ((rd_T139 l0_1 x22_2).f1) then (some false) else (if ((rd_T139 l0_1 x22_2).f2) < 1 then (some false) else (if ((rd_T139 l0_1 x22_2).f2) > 999 then (some false) else (impl_NetValid.l0 k2 l0_1 (l0_1.length : Int) (wrap64 (x22_2 + 1)) a0_0 l0_1)))) else (some false))) else (some false)) = some r := H
         have A14 := Aside0.mk A140
         clear A140
         by_cases c15 : t196 = true
         ·subst c15
          have H1 : ((impl_Net_hasBus.f a0_0 l0_1 ((rd_T139 l0_1 x22_2).f1)).bind fun t197 => (if t197 = true then (if ((rd_T139 l0_1 x22_2).f0) = ((rd_T139 l0_1 x22_2).f1) then (some false) else (if ((rd_T139 l0_1 x22_2).f2) < 1 then (some false) else (if ((rd_T139 l0_1 x22_2).f2) > 999 then (some false) else (impl_NetValid.l0 k2 l0_1 (l0_1.length : Int) (wrap64 (x22_2 + 1)) a0_0 l0_1)))) else (some false))) = some r := by rw [if_pos rfl] at H; exact H
          clear H
          have H := H1
          clear H1
          replace H := Option.bind_eq_some_iff.mp H
          obtain ⟨t197, A160, H⟩ := H
          replace H : (if t197 = true then (if ((rd_T139 l0_1 x22_2).f0) = ((rd_T139 l0_1 x22_2).f1) then (some false) else (if ((rd_T139 l0_1 x22_2).f2) < 1 then (some false) else (if ((rd_T139 l0_1 x22_2).f2) > 999 then (some false) else (impl_NetValid.l0 k2 l0_1 (l0_1.length : Int) (wrap64 (x22_2 + 1)) a0_0 l0_1)))) else (some false)) = some r := H
          have A16 := Aside0.mk A160
          clear A160
          by_cases c17 : t197 = true
          ·subst c17
           have H1 : (if ((rd_T139 l0_1 x22_2).f0) = ((rd_T139 l0_1 x22_2).f1) then (some false) else (if ((rd_T139 l0_1 x22_2).f2) < 1 then (some false) else (if ((rd_T139 l0_1 x22_2).f2) > 999 then (some false) else (impl_NetValid.l0 k2 l0_1 (l0_1.length : Int) (wrap64 (x22_2 + 1)) a0_0 l0_1)))) = some r := by rw [if_pos rfl] at H; exact H
           clear H
           have H := H1
           clear H1
           by_cases c18 : ((rd_T139 l0_1 x22_2).f0) = ((rd_T139 l0_1 x22_2).f1)
           ·rw [if_pos c18] at H
            have c18b0 : (((rd_T139 l0_1 x22_2).f0) == ((rd_T139 l0_1 x22_2).f1)) = true := beq_iff_eq.mpr c18
            have c18b1 : (((rd_T139 l0_1 x22_2).f0) != ((rd_T139 l0_1 x22_2).f1)) = false := bne_eq_false_iff_eq.mpr c18
            clear c18
            obtain rfl := Option.some.inj H
            have p194 : 0 ≤ (x22_2 : Int) := of_decide_eq_true (by first | (with_reducible assumption) | assumption)
            have q194 : x22_2 < (l0_1.length : Int) := of_decide_eq_true (by first | (with_reducible assumption) | assumption)
            obtain ⟨ad194, e194, hx194_0, hx194_1, hx194_2⟩ := at_T139 HR0_1.out x22_2 p194 q194
            cases e194
            replace hx194_0 := (HB.out.cell (World.block_lt_of_cell? w _ hx194_0)).trans hx194_0
            replace hx194_1 := (HB.out.cell (World.block_lt_of_cell? w _ hx194_1)).trans hx194_1
            replace hx194_2 := (HB.out.cell (World.block_lt_of_cell? w _ hx194_2)).trans hx194_2
            replace p194 := eq_true p194
            replace q194 := eq_true q194
            have TK0_ := Aside0.mk trivial
            go_wp2_with (first | (clear TK0_; (with_reducible refine gate_dst (N := 4) rfl ?_); (try (refine gate_guard (by rfl) ?_; dsimp only)); refine box_event ?hg (N := 4) ?hd (cs := #[.int .i64 0, .int .i64 0, .int .i64 0]) (t := 139) ?hr ?_; (case hd => rfl); (case hg => rfl); (case hr => first | (go_simp; done) | (go_simp; rfl)); intro gb195 hg w19 hbox hb; have n0_ := bkB BK193 hb; have n1_ := Aside0.mk (below_step bw hb); have n2_ := Aside0.mk (hbox); have n3_ := Aside0.mk ((by rw [hg]; exact (below_size bw) : w.heap.size ≤ gb195)); have n4_ := Aside0.mk ((by rw [hg]; exact (below_size bw) : w.heap.size ≤ gb195)); have n5_ := Aside0.mk ((by rw [hg]; exact Nat.ne_of_lt (blk_lt (g := gb193) (o := .cells #[.int .i64 a0_0, .slice (some ad194) l0_1.length c0_1] 35 (0, 0)) (bk BK193)) : gb193 ≠ gb195)); have n6_ := Aside0.mk ((by rw [hg]; exact Nat.ne_of_gt (blk_lt (g := gb193) (o := .cells #[.int .i64 a0_0, .slice (some ad194) l0_1.length c0_1] 35 (0, 0)) (bk BK193)) : gb195 ≠ gb193)); clear BK193 HB; have BK193 := n0_; have HB := n1_; have BK195 := n2_; have GW195 := n3_; have GE195 := n4_; have NB193_195 := n5_; have NB195_193 := n6_; clear n0_ n1_ n2_ n3_ n4_ n5_ n6_; clear hb hbox hg; have hnb20 := NB195_193.out; have hnc20 := NB193_195.out; have hcz21_0 : w19.cell? ⟨gb195, 0, none⟩ = some (.int .i64 0) := (blk_cell BK195.out 0).trans rfl; have hcz21_1 : w19.cell? ⟨gb195, 1, none⟩ = some (.int .i64 0) := (blk_cell BK195.out 1).trans rfl; have hcz21_2 : w19.cell? ⟨gb195, 2, none⟩ = some (.int .i64 0) := (blk_cell BK195.out 2).trans rfl; have hfz21_0 := blk_frozen BK195.out 0; have hfz21_1 := blk_frozen BK195.out 1; have hfz21_2 := blk_frozen BK195.out 2; have hcz22_0 : w19.cell? ⟨gb193, 0, none⟩ = some (.int .i64 a0_0) := (blk_cell BK193.out 0).trans rfl; have hcz22_1 : w19.cell? ⟨gb193, 1, none⟩ = some (.slice (some ad194) l0_1.length c0_1) := (blk_cell BK193.out 1).trans rfl; have hfz22_0 := blk_frozen BK193.out 0; have hfz22_1 := blk_frozen BK193.out 1; have TK1_ := Aside0.mk trivial) | (clear TK1_; (with_reducible refine gate_callee (f := 125) rfl ?_); refine goesL_ (some 29) rfl rfl Try.func125 (by kernel_rfl) rfl #[.agg #[.int .i64 a0_0, .slice (some ad194) l0_1.length c0_1], .int .i64 ((rd_T139 l0_1 x22_2).f0)] rfl (by (try simp only [List.map_toArray, List.map_cons, List.map_nil]); first | done | rfl | (simp only [List.length_drop, List.length_take]; rfl)) ?_; (with_reducible refine (impl_Net_hasBus.calls a0_0 _ _ l0_1 ((rd_T139 l0_1 x22_2).f0) true _ ?side1 ?side2 A14.out).mono ?_); (case side1 => exact Kd.C_below HR0_1.out bw); (case side2 => exact HC0_1.out); rintro e w23 ⟨rfl, hb⟩; refine ⟨_, rfl, ?_⟩; have n0_ := Aside0.mk (blk_below (g := gb193) (o := .cells #[.int .i64 a0_0, .slice (some ad194) l0_1.length c0_1] 35 (0, 0)) (by (with_reducible repeat (first | refine blk_drewN ?_ _ | refine blk_drew ?_ | refine blk_alloc ?_ _)); refine blk_far ?_ NB193_195.out _; (with_reducible repeat (first | refine blk_drewN ?_ _ | refine blk_drew ?_ | refine blk_alloc ?_ _)); refine blk_far ?_ NB193_195.out _; (with_reducible repeat (first | refine blk_drewN ?_ _ | refine blk_drew ?_ | refine blk_alloc ?_ _)); refine blk_far ?_ NB193_195.out _; (with_reducible repeat (first | refine blk_drewN ?_ _ | refine blk_drew ?_ | refine blk_alloc ?_ _)); exact BK193.out) hb); have n1_ := Aside0.mk (blk_below (g := gb195) (o := .cells #[.int .i64 ((rd_T139 l0_1 x22_2).f0), .int .i64 ((rd_T139 l0_1 x22_2).f1), .int .i64 ((rd_T139 l0_1 x22_2).f2)] 139 (0, 0)) (by (with_reducible repeat (first | refine blk_drewN ?_ _ | refine blk_drew ?_ | refine blk_alloc ?_ _)); refine blk_put (cs := #[.int .i64 ((rd_T139 l0_1 x22_2).f0), .int .i64 ((rd_T139 l0_1 x22_2).f1), .int .i64 0]) ?_ 2 _ rfl; (with_reducible repeat (first | refine blk_drewN ?_ _ | refine blk_drew ?_ | refine blk_alloc ?_ _)); refine blk_put (cs := #[.int .i64 ((rd_T139 l0_1 x22_2).f0), .int .i64 0, .int .i64 0]) ?_ 1 _ rfl; (with_reducible repeat (first | refine blk_drewN ?_ _ | refine blk_drew ?_ | refine blk_alloc ?_ _)); refine blk_put (cs := #[.int .i64 0, .int .i64 0, .int .i64 0]) ?_ 0 _ rfl; (with_reducible repeat (first | refine blk_drewN ?_ _ | refine blk_drew ?_ | refine blk_alloc ?_ _)); exact BK195.out) hb); have n2_ := Aside0.mk (below_step bw hb); clear BK193 BK195 HB; have BK193 := n0_; have BK195 := n1_; have HB := n2_; clear n0_ n1_ n2_; (try clear hb); (try clear hb2); (try clear hk); (try clear hi); have hcz24_0 : w23.cell? ⟨gb193, 0, none⟩ = some (.int .i64 a0_0) := (blk_cell BK193.out 0).trans rfl; have hcz24_1 : w23.cell? ⟨gb193, 1, none⟩ = some (.slice (some ad194) l0_1.length c0_1) := (blk_cell BK193.out 1).trans rfl; have hfz24_0 := blk_frozen BK193.out 0; have hfz24_1 := blk_frozen BK193.out 1; have hcz25_0 : w23.cell? ⟨gb195, 0, none⟩ = some (.int .i64 ((rd_T139 l0_1 x22_2).f0)) := (blk_cell BK195.out 0).trans rfl; have hcz25_1 : w23.cell? ⟨gb195, 1, none⟩ = some (.int .i64 ((rd_T139 l0_1 x22_2).f1)) := (blk_cell BK195.out 1).trans rfl; have hcz25_2 : w23.cell? ⟨gb195, 2, none⟩ = some (.int .i64 ((rd_T139 l0_1 x22_2).f2)) := (blk_cell BK195.out 2).trans rfl; have hfz25_0 := blk_frozen BK195.out 0; have hfz25_1 := blk_frozen BK195.out 1; have hfz25_2 := blk_frozen BK195.out 2; have TK2_ := Aside0.mk trivial) | (clear TK2_; go_at_call 125; (with_reducible refine (impl_Net_hasBus.calls a0_0 _ _ l0_1 ((rd_T139 l0_1 x22_2).f1) true _ ?side1 ?side2 A16.out).mono ?_); (case side1 => exact cb HR0_1); (case side2 => exact HC0_1.out); rintro e w26 ⟨rfl, hb⟩; have n0_ := bkB BK193 hb; have n1_ := bkB BK195 hb; have n2_ := Aside0.mk (below_step bw hb); clear BK193 BK195 HB; have BK193 := n0_; have BK195 := n1_; have HB := n2_; clear n0_ n1_ n2_; (try clear hb); (try clear hb2); (try clear hk); (try clear hi); have hcz27_0 : w26.cell? ⟨gb195, 0, none⟩ = some (.int .i64 ((rd_T139 l0_1 x22_2).f0)) := (blk_cell BK195.out 0).trans rfl; have hcz27_1 : w26.cell? ⟨gb195, 1, none⟩ = some (.int .i64 ((rd_T139 l0_1 x22_2).f1)) := (blk_cell BK195.out 1).trans rfl; have hcz27_2 : w26.cell? ⟨gb195, 2, none⟩ = some (.int .i64 ((rd_T139 l0_1 x22_2).f2)) := (blk_cell BK195.out 2).trans rfl; have hfz27_0 := blk_frozen BK195.out 0; have hfz27_1 := blk_frozen BK195.out 1; have hfz27_2 := blk_frozen BK195.out 2; have TK3_ := Aside0.mk trivial))
            go_ret
            exact ⟨by first | rfl | (simp [errW_none, errW_some] <;> rfl) | (simp [*, errW_none, errW_some] <;> rfl), bw⟩
           ·rw [if_neg c18] at H
            have c18b0 : (((rd_T139 l0_1 x22_2).f0) == ((rd_T139 l0_1 x22_2).f1)) = false := beq_eq_false_iff_ne.mpr c18
            have c18b1 : (((rd_T139 l0_1 x22_2).f0) != ((rd_T139 l0_1 x22_2).f1)) = true := bne_iff_ne.mpr c18
            by_cases c28 : ((rd_T139 l0_1 x22_2).f2) < 1
            ·rw [if_pos c28] at H
             have c28b0 : decide (((rd_T139 l0_1 x22_2).f2) < 1) = true := decide_eq_true c28
             clear c28
             obtain rfl := Option.some.inj H
             have p194 : 0 ≤ (x22_2 : Int) := of_decide_eq_true (by first | (with_reducible assumption) | assumption)
             have q194 : x22_2 < (l0_1.length : Int) := of_decide_eq_true (by first | (with_reducible assumption) | assumption)
             obtain ⟨ad194, e194, hx194_0, hx194_1, hx194_2⟩ := at_T139 HR0_1.out x22_2 p194 q194
             cases e194
             replace hx194_0 := (HB.out.cell (World.block_lt_of_cell? w _ hx194_0)).trans hx194_0
             replace hx194_1 := (HB.out.cell (World.block_lt_of_cell? w _ hx194_1)).trans hx194_1
             replace hx194_2 := (HB.out.cell (World.block_lt_of_cell? w _ hx194_2)).trans hx194_2
             replace p194 := eq_true p194
             replace q194 := eq_true q194
             have TK0_ := Aside0.mk trivial
             go_wp2_with (first | (clear TK0_; (with_reducible refine gate_dst (N := 4) rfl ?_); (try (refine gate_guard (by rfl) ?_; dsimp only)); refine box_event ?hg (N := 4) ?hd (cs := #[.int .i64 0, .int .i64 0, .int .i64 0]) (t := 139) ?hr ?_; (case hd => rfl); (case hg => rfl); (case hr => first | (go_simp; done) | (go_simp; rfl)); intro gb195 hg w29 hbox hb; have n0_ := bkB BK193 hb; have n1_ := Aside0.mk (below_step bw hb); have n2_ := Aside0.mk (hbox); have n3_ := Aside0.mk ((by rw [hg]; exact (below_size bw) : w.heap.size ≤ gb195)); have n4_ := Aside0.mk ((by rw [hg]; exact (below_size bw) : w.heap.size ≤ gb195)); have n5_ := Aside0.mk ((by rw [hg]; exact Nat.ne_of_lt (blk_lt (g := gb193) (o := .cells #[.int .i64 a0_0, .slice (some ad194) l0_1.length c0_1] 35 (0, 0)) (bk BK193)) : gb193 ≠ gb195)); have n6_ := Aside0.mk ((by rw [hg]; exact Nat.ne_of_gt (blk_lt (g := gb193) (o := .cells #[.int .i64 a0_0, .slice (some ad194) l0_1.length c0_1] 35 (0, 0)) (bk BK193)) : gb195 ≠ gb193)); clear BK193 HB; have BK193 := n0_; have HB := n1_; have BK195 := n2_; have GW195 := n3_; have GE195 := n4_; have NB193_195 := n5_; have NB195_193 := n6_; clear n0_ n1_ n2_ n3_ n4_ n5_ n6_; clear hb hbox hg; have hnb30 := NB195_193.out; have hnc30 := NB193_195.out; have hcz31_0 : w29.cell? ⟨gb195, 0, none⟩ = some (.int .i64 0) := (blk_cell BK195.out 0).trans rfl; have hcz31_1 : w29.cell? ⟨gb195, 1, none⟩ = some (.int .i64 0) := (blk_cell BK195.out 1).trans rfl; have hcz31_2 : w29.cell? ⟨gb195, 2, none⟩ = some (.int .i64 0) := (blk_cell BK195.out 2).trans rfl; have hfz31_0 := blk_frozen BK195.out 0; have hfz31_1 := blk_frozen BK195.out 1; have hfz31_2 := blk_frozen BK195.out 2; have hcz32_0 : w29.cell? ⟨gb193, 0, none⟩ = some (.int .i64 a0_0) := (blk_cell BK193.out 0).trans rfl; have hcz32_1 : w29.cell? ⟨gb193, 1, none⟩ = some (.slice (some ad194) l0_1.length c0_1) := (blk_cell BK193.out 1).trans rfl; have hfz32_0 := blk_frozen BK193.out 0; have hfz32_1 := blk_frozen BK193.out 1; have TK1_ := Aside0.mk trivial) | (clear TK1_; (with_reducible refine gate_callee (f := 125) rfl ?_); refine goesL_ (some 29) rfl rfl Try.func125 (by kernel_rfl) rfl #[.agg #[.int .i64 a0_0, .slice (some ad194) l0_1.length c0_1], .int .i64 ((rd_T139 l0_1 x22_2).f0)] rfl (by (try simp only [List.map_toArray, List.map_cons, List.map_nil]); first | done | rfl | (simp only [List.length_drop, List.length_take]; rfl)) ?_; (with_reducible refine (impl_Net_hasBus.calls a0_0 _ _ l0_1 ((rd_T139 l0_1 x22_2).f0) true _ ?side1 ?side2 A14.out).mono ?_); (case side1 => exact Kd.C_below HR0_1.out bw); (case side2 => exact HC0_1.out); rintro e w33 ⟨rfl, hb⟩; refine ⟨_, rfl, ?_⟩; have n0_ := Aside0.mk (blk_below (g := gb193) (o := .cells #[.int .i64 a0_0, .slice (some ad194) l0_1.length c0_1] 35 (0, 0)) (by (with_reducible repeat (first | refine blk_drewN ?_ _ | refine blk_drew ?_ | refine blk_alloc ?_ _)); refine blk_far ?_ NB193_195.out _; (with_reducible repeat (first | refine blk_drewN ?_ _ | refine blk_drew ?_ | refine blk_alloc ?_ _)); refine blk_far ?_ NB193_195.out _; (with_reducible repeat (first | refine blk_drewN ?_ _ | refine blk_drew ?_ | refine blk_alloc ?_ _)); refine blk_far ?_ NB193_195.out _; (with_reducible repeat (first | refine blk_drewN ?_ _ | refine blk_drew ?_ | refine blk_alloc ?_ _)); exact BK193.out) hb); have n1_ := Aside0.mk (blk_below (g := gb195) (o := .cells #[.int .i64 ((rd_T139 l0_1 x22_2).f0), .int .i64 ((rd_T139 l0_1 x22_2).f1), .int .i64 ((rd_T139 l0_1 x22_2).f2)] 139 (0, 0)) (by (with_reducible repeat (first | refine blk_drewN ?_ _ | refine blk_drew ?_ | refine blk_alloc ?_ _)); refine blk_put (cs := #[.int .i64 ((rd_T139 l0_1 x22_2).f0), .int .i64 ((rd_T139 l0_1 x22_2).f1), .int .i64 0]) ?_ 2 _ rfl; (with_reducible repeat (first | refine blk_drewN ?_ _ | refine blk_drew ?_ | refine blk_alloc ?_ _)); refine blk_put (cs := #[.int .i64 ((rd_T139 l0_1 x22_2).f0), .int .i64 0, .int .i64 0]) ?_ 1 _ rfl; (with_reducible repeat (first | refine blk_drewN ?_ _ | refine blk_drew ?_ | refine blk_alloc ?_ _)); refine blk_put (cs := #[.int .i64 0, .int .i64 0, .int .i64 0]) ?_ 0 _ rfl; (with_reducible repeat (first | refine blk_drewN ?_ _ | refine blk_drew ?_ | refine blk_alloc ?_ _)); exact BK195.out) hb); have n2_ := Aside0.mk (below_step bw hb); clear BK193 BK195 HB; have BK193 := n0_; have BK195 := n1_; have HB := n2_; clear n0_ n1_ n2_; (try clear hb); (try clear hb2); (try clear hk); (try clear hi); have hcz34_0 : w33.cell? ⟨gb193, 0, none⟩ = some (.int .i64 a0_0) := (blk_cell BK193.out 0).trans rfl; have hcz34_1 : w33.cell? ⟨gb193, 1, none⟩ = some (.slice (some ad194) l0_1.length c0_1) := (blk_cell BK193.out 1).trans rfl; have hfz34_0 := blk_frozen BK193.out 0; have hfz34_1 := blk_frozen BK193.out 1; have hcz35_0 : w33.cell? ⟨gb195, 0, none⟩ = some (.int .i64 ((rd_T139 l0_1 x22_2).f0)) := (blk_cell BK195.out 0).trans rfl; have hcz35_1 : w33.cell? ⟨gb195, 1, none⟩ = some (.int .i64 ((rd_T139 l0_1 x22_2).f1)) := (blk_cell BK195.out 1).trans rfl; have hcz35_2 : w33.cell? ⟨gb195, 2, none⟩ = some (.int .i64 ((rd_T139 l0_1 x22_2).f2)) := (blk_cell BK195.out 2).trans rfl; have hfz35_0 := blk_frozen BK195.out 0; have hfz35_1 := blk_frozen BK195.out 1; have hfz35_2 := blk_frozen BK195.out 2; have TK2_ := Aside0.mk trivial) | (clear TK2_; go_at_call 125; (with_reducible refine (impl_Net_hasBus.calls a0_0 _ _ l0_1 ((rd_T139 l0_1 x22_2).f1) true _ ?side1 ?side2 A16.out).mono ?_); (case side1 => exact cb HR0_1); (case side2 => exact HC0_1.out); rintro e w36 ⟨rfl, hb⟩; have n0_ := bkB BK193 hb; have n1_ := bkB BK195 hb; have n2_ := Aside0.mk (below_step bw hb); clear BK193 BK195 HB; have BK193 := n0_; have BK195 := n1_; have HB := n2_; clear n0_ n1_ n2_; (try clear hb); (try clear hb2); (try clear hk); (try clear hi); have hcz37_0 : w36.cell? ⟨gb195, 0, none⟩ = some (.int .i64 ((rd_T139 l0_1 x22_2).f0)) := (blk_cell BK195.out 0).trans rfl; have hcz37_1 : w36.cell? ⟨gb195, 1, none⟩ = some (.int .i64 ((rd_T139 l0_1 x22_2).f1)) := (blk_cell BK195.out 1).trans rfl; have hcz37_2 : w36.cell? ⟨gb195, 2, none⟩ = some (.int .i64 ((rd_T139 l0_1 x22_2).f2)) := (blk_cell BK195.out 2).trans rfl; have hfz37_0 := blk_frozen BK195.out 0; have hfz37_1 := blk_frozen BK195.out 1; have hfz37_2 := blk_frozen BK195.out 2; have TK3_ := Aside0.mk trivial))
             go_ret
             exact ⟨by first | rfl | (simp [errW_none, errW_some] <;> rfl) | (simp [*, errW_none, errW_some] <;> rfl), bw⟩
            ·rw [if_neg c28] at H
             have c28b0 : decide (((rd_T139 l0_1 x22_2).f2) < 1) = false := decide_eq_false c28
             clear c28
             by_cases c38 : ((rd_T139 l0_1 x22_2).f2) > 999
             ·rw [if_pos c38] at H
              have c38b0 : decide (999 < ((rd_T139 l0_1 x22_2).f2)) = true := decide_eq_true c38
              clear c38
              obtain rfl := Option.some.inj H
              have p194 : 0 ≤ (x22_2 : Int) := of_decide_eq_true (by first | (with_reducible assumption) | assumption)
              have q194 : x22_2 < (l0_1.length : Int) := of_decide_eq_true (by first | (with_reducible assumption) | assumption)
              obtain ⟨ad194, e194, hx194_0, hx194_1, hx194_2⟩ := at_T139 HR0_1.out x22_2 p194 q194
              cases e194
              replace hx194_0 := (HB.out.cell (World.block_lt_of_cell? w _ hx194_0)).trans hx194_0
              replace hx194_1 := (HB.out.cell (World.block_lt_of_cell? w _ hx194_1)).trans hx194_1
              replace hx194_2 := (HB.out.cell (World.block_lt_of_cell? w _ hx194_2)).trans hx194_2
              replace p194 := eq_true p194
              replace q194 := eq_true q194
              have TK0_ := Aside0.mk trivial
              go_wp2_with (first | (clear TK0_; (with_reducible refine gate_dst (N := 4) rfl ?_); (try (refine gate_guard (by rfl) ?_; dsimp only)); refine box_event ?hg (N := 4) ?hd (cs := #[.int .i64 0, .int .i64 0, .int .i64 0]) (t := 139) ?hr ?_; (case hd => rfl); (case hg => rfl); (case hr => first | (go_simp; done) | (go_simp; rfl)); intro gb195 hg w39 hbox hb; have n0_ := bkB BK193 hb; have n1_ := Aside0.mk (below_step bw hb); have n2_ := Aside0.mk (hbox); have n3_ := Aside0.mk ((by rw [hg]; exact (below_size bw) : w.heap.size ≤ gb195)); have n4_ := Aside0.mk ((by rw [hg]; exact (below_size bw) : w.heap.size ≤ gb195)); have n5_ := Aside0.mk ((by rw [hg]; exact Nat.ne_of_lt (blk_lt (g := gb193) (o := .cells #[.int .i64 a0_0, .slice (some ad194) l0_1.length c0_1] 35 (0, 0)) (bk BK193)) : gb193 ≠ gb195)); have n6_ := Aside0.mk ((by rw [hg]; exact Nat.ne_of_gt (blk_lt (g := gb193) (o := .cells #[.int .i64 a0_0, .slice (some ad194) l0_1.length c0_1] 35 (0, 0)) (bk BK193)) : gb195 ≠ gb193)); clear BK193 HB; have BK193 := n0_; have HB := n1_; have BK195 := n2_; have GW195 := n3_; have GE195 := n4_; have NB193_195 := n5_; have NB195_193 := n6_; clear n0_ n1_ n2_ n3_ n4_ n5_ n6_; clear hb hbox hg; have hnb40 := NB195_193.out; have hnc40 := NB193_195.out; have hcz41_0 : w39.cell? ⟨gb195, 0, none⟩ = some (.int .i64 0) := (blk_cell BK195.out 0).trans rfl; have hcz41_1 : w39.cell? ⟨gb195, 1, none⟩ = some (.int .i64 0) := (blk_cell BK195.out 1).trans rfl; have hcz41_2 : w39.cell? ⟨gb195, 2, none⟩ = some (.int .i64 0) := (blk_cell BK195.out 2).trans rfl; have hfz41_0 := blk_frozen BK195.out 0; have hfz41_1 := blk_frozen BK195.out 1; have hfz41_2 := blk_frozen BK195.out 2; have hcz42_0 : w39.cell? ⟨gb193, 0, none⟩ = some (.int .i64 a0_0) := (blk_cell BK193.out 0).trans rfl; have hcz42_1 : w39.cell? ⟨gb193, 1, none⟩ = some (.slice (some ad194) l0_1.length c0_1) := (blk_cell BK193.out 1).trans rfl; have hfz42_0 := blk_frozen BK193.out 0; have hfz42_1 := blk_frozen BK193.out 1; have TK1_ := Aside0.mk trivial) | (clear TK1_; (with_reducible refine gate_callee (f := 125) rfl ?_); refine goesL_ (some 29) rfl rfl Try.func125 (by kernel_rfl) rfl #[.agg #[.int .i64 a0_0, .slice (some ad194) l0_1.length c0_1], .int .i64 ((rd_T139 l0_1 x22_2).f0)] rfl (by (try simp only [List.map_toArray, List.map_cons, List.map_nil]); first | done | rfl | (simp only [List.length_drop, List.length_take]; rfl)) ?_; (with_reducible refine (impl_Net_hasBus.calls a0_0 _ _ l0_1 ((rd_T139 l0_1 x22_2).f0) true _ ?side1 ?side2 A14.out).mono ?_); (case side1 => exact Kd.C_below HR0_1.out bw); (case side2 => exact HC0_1.out); rintro e w43 ⟨rfl, hb⟩; refine ⟨_, rfl, ?_⟩; have n0_ := Aside0.mk (blk_below (g := gb193) (o := .cells #[.int .i64 a0_0, .slice (some ad194) l0_1.length c0_1] 35 (0, 0)) (by (with_reducible repeat (first | refine blk_drewN ?_ _ | refine blk_drew ?_ | refine blk_alloc ?_ _)); refine blk_far ?_ NB193_195.out _; (with_reducible repeat (first | refine blk_drewN ?_ _ | refine blk_drew ?_ | refine blk_alloc ?_ _)); refine blk_far ?_ NB193_195.out _; (with_reducible repeat (first | refine blk_drewN ?_ _ | refine blk_drew ?_ | refine blk_alloc ?_ _)); refine blk_far ?_ NB193_195.out _; (with_reducible repeat (first | refine blk_drewN ?_ _ | refine blk_drew ?_ | refine blk_alloc ?_ _)); exact BK193.out) hb); have n1_ := Aside0.mk (blk_below (g := gb195) (o := .cells #[.int .i64 ((rd_T139 l0_1 x22_2).f0), .int .i64 ((rd_T139 l0_1 x22_2).f1), .int .i64 ((rd_T139 l0_1 x22_2).f2)] 139 (0, 0)) (by (with_reducible repeat (first | refine blk_drewN ?_ _ | refine blk_drew ?_ | refine blk_alloc ?_ _)); refine blk_put (cs := #[.int .i64 ((rd_T139 l0_1 x22_2).f0), .int .i64 ((rd_T139 l0_1 x22_2).f1), .int .i64 0]) ?_ 2 _ rfl; (with_reducible repeat (first | refine blk_drewN ?_ _ | refine blk_drew ?_ | refine blk_alloc ?_ _)); refine blk_put (cs := #[.int .i64 ((rd_T139 l0_1 x22_2).f0), .int .i64 0, .int .i64 0]) ?_ 1 _ rfl; (with_reducible repeat (first | refine blk_drewN ?_ _ | refine blk_drew ?_ | refine blk_alloc ?_ _)); refine blk_put (cs := #[.int .i64 0, .int .i64 0, .int .i64 0]) ?_ 0 _ rfl; (with_reducible repeat (first | refine blk_drewN ?_ _ | refine blk_drew ?_ | refine blk_alloc ?_ _)); exact BK195.out) hb); have n2_ := Aside0.mk (below_step bw hb); clear BK193 BK195 HB; have BK193 := n0_; have BK195 := n1_; have HB := n2_; clear n0_ n1_ n2_; (try clear hb); (try clear hb2); (try clear hk); (try clear hi); have hcz44_0 : w43.cell? ⟨gb193, 0, none⟩ = some (.int .i64 a0_0) := (blk_cell BK193.out 0).trans rfl; have hcz44_1 : w43.cell? ⟨gb193, 1, none⟩ = some (.slice (some ad194) l0_1.length c0_1) := (blk_cell BK193.out 1).trans rfl; have hfz44_0 := blk_frozen BK193.out 0; have hfz44_1 := blk_frozen BK193.out 1; have hcz45_0 : w43.cell? ⟨gb195, 0, none⟩ = some (.int .i64 ((rd_T139 l0_1 x22_2).f0)) := (blk_cell BK195.out 0).trans rfl; have hcz45_1 : w43.cell? ⟨gb195, 1, none⟩ = some (.int .i64 ((rd_T139 l0_1 x22_2).f1)) := (blk_cell BK195.out 1).trans rfl; have hcz45_2 : w43.cell? ⟨gb195, 2, none⟩ = some (.int .i64 ((rd_T139 l0_1 x22_2).f2)) := (blk_cell BK195.out 2).trans rfl; have hfz45_0 := blk_frozen BK195.out 0; have hfz45_1 := blk_frozen BK195.out 1; have hfz45_2 := blk_frozen BK195.out 2; have TK2_ := Aside0.mk trivial) | (clear TK2_; go_at_call 125; (with_reducible refine (impl_Net_hasBus.calls a0_0 _ _ l0_1 ((rd_T139 l0_1 x22_2).f1) true _ ?side1 ?side2 A16.out).mono ?_); (case side1 => exact cb HR0_1); (case side2 => exact HC0_1.out); rintro e w46 ⟨rfl, hb⟩; have n0_ := bkB BK193 hb; have n1_ := bkB BK195 hb; have n2_ := Aside0.mk (below_step bw hb); clear BK193 BK195 HB; have BK193 := n0_; have BK195 := n1_; have HB := n2_; clear n0_ n1_ n2_; (try clear hb); (try clear hb2); (try clear hk); (try clear hi); have hcz47_0 : w46.cell? ⟨gb195, 0, none⟩ = some (.int .i64 ((rd_T139 l0_1 x22_2).f0)) := (blk_cell BK195.out 0).trans rfl; have hcz47_1 : w46.cell? ⟨gb195, 1, none⟩ = some (.int .i64 ((rd_T139 l0_1 x22_2).f1)) := (blk_cell BK195.out 1).trans rfl; have hcz47_2 : w46.cell? ⟨gb195, 2, none⟩ = some (.int .i64 ((rd_T139 l0_1 x22_2).f2)) := (blk_cell BK195.out 2).trans rfl; have hfz47_0 := blk_frozen BK195.out 0; have hfz47_1 := blk_frozen BK195.out 1; have hfz47_2 := blk_frozen BK195.out 2; have TK3_ := Aside0.mk trivial))
              go_ret
              exact ⟨by first | rfl | (simp [errW_none, errW_some] <;> rfl) | (simp [*, errW_none, errW_some] <;> rfl), bw⟩
             ·rw [if_neg c38] at H
              have c38b0 : decide (999 < ((rd_T139 l0_1 x22_2).f2)) = false := decide_eq_false c38
              clear c38
              have H' := Aside0.mk H
              clear H
              have p194 : 0 ≤ (x22_2 : Int) := of_decide_eq_true (by first | (with_reducible assumption) | assumption)
              have q194 : x22_2 < (l0_1.length : Int) := of_decide_eq_true (by first | (with_reducible assumption) | assumption)
              obtain ⟨ad194, e194, hx194_0, hx194_1, hx194_2⟩ := at_T139 HR0_1.out x22_2 p194 q194
              cases e194
              replace hx194_0 := (HB.out.cell (World.block_lt_of_cell? w _ hx194_0)).trans hx194_0
              replace hx194_1 := (HB.out.cell (World.block_lt_of_cell? w _ hx194_1)).trans hx194_1
              replace hx194_2 := (HB.out.cell (World.block_lt_of_cell? w _ hx194_2)).trans hx194_2
              replace p194 := eq_true p194
              replace q194 := eq_true q194
              have TK0_ := Aside0.mk trivial
              go_wp2_with (first | (clear TK0_; (with_reducible refine gate_dst (N := 4) rfl ?_); (try (refine gate_guard (by rfl) ?_; dsimp only)); refine box_event ?hg (N := 4) ?hd (cs := #[.int .i64 0, .int .i64 0, .int .i64 0]) (t := 139) ?hr ?_; (case hd => rfl); (case hg => rfl); (case hr => first | (go_simp; done) | (go_simp; rfl)); intro gb195 hg w48 hbox hb; have n0_ := bkB BK193 hb; have n1_ := Aside0.mk (below_step bw hb); have n2_ := Aside0.mk (hbox); have n3_ := Aside0.mk ((by rw [hg]; exact (below_size bw) : w.heap.size ≤ gb195)); have n4_ := Aside0.mk ((by rw [hg]; exact (below_size bw) : w.heap.size ≤ gb195)); have n5_ := Aside0.mk ((by rw [hg]; exact Nat.ne_of_lt (blk_lt (g := gb193) (o := .cells #[.int .i64 a0_0, .slice (some ad194) l0_1.length c0_1] 35 (0, 0)) (bk BK193)) : gb193 ≠ gb195)); have n6_ := Aside0.mk ((by rw [hg]; exact Nat.ne_of_gt (blk_lt (g := gb193) (o := .cells #[.int .i64 a0_0, .slice (some ad194) l0_1.length c0_1] 35 (0, 0)) (bk BK193)) : gb195 ≠ gb193)); clear BK193 HB; have BK193 := n0_; have HB := n1_; have BK195 := n2_; have GW195 := n3_; have GE195 := n4_; have NB193_195 := n5_; have NB195_193 := n6_; clear n0_ n1_ n2_ n3_ n4_ n5_ n6_; clear hb hbox hg; have hnb49 := NB195_193.out; have hnc49 := NB193_195.out; have hcz50_0 : w48.cell? ⟨gb195, 0, none⟩ = some (.int .i64 0) := (blk_cell BK195.out 0).trans rfl; have hcz50_1 : w48.cell? ⟨gb195, 1, none⟩ = some (.int .i64 0) := (blk_cell BK195.out 1).trans rfl; have hcz50_2 : w48.cell? ⟨gb195, 2, none⟩ = some (.int .i64 0) := (blk_cell BK195.out 2).trans rfl; have hfz50_0 := blk_frozen BK195.out 0; have hfz50_1 := blk_frozen BK195.out 1; have hfz50_2 := blk_frozen BK195.out 2; have hcz51_0 : w48.cell? ⟨gb193, 0, none⟩ = some (.int .i64 a0_0) := (blk_cell BK193.out 0).trans rfl; have hcz51_1 : w48.cell? ⟨gb193, 1, none⟩ = some (.slice (some ad194) l0_1.length c0_1) := (blk_cell BK193.out 1).trans rfl; have hfz51_0 := blk_frozen BK193.out 0; have hfz51_1 := blk_frozen BK193.out 1; have TK1_ := Aside0.mk trivial) | (clear TK1_; (with_reducible refine gate_callee (f := 125) rfl ?_); refine goesL_ (some 29) rfl rfl Try.func125 (by kernel_rfl) rfl #[.agg #[.int .i64 a0_0, .slice (some ad194) l0_1.length c0_1], .int .i64 ((rd_T139 l0_1 x22_2).f0)] rfl (by (try simp only [List.map_toArray, List.map_cons, List.map_nil]); first | done | rfl | (simp only [List.length_drop, List.length_take]; rfl)) ?_; (with_reducible refine (impl_Net_hasBus.calls a0_0 _ _ l0_1 ((rd_T139 l0_1 x22_2).f0) true _ ?side1 ?side2 A14.out).mono ?_); (case side1 => exact Kd.C_below HR0_1.out bw); (case side2 => exact HC0_1.out); rintro e w52 ⟨rfl, hb⟩; refine ⟨_, rfl, ?_⟩; have n0_ := Aside0.mk (blk_below (g := gb193) (o := .cells #[.int .i64 a0_0, .slice (some ad194) l0_1.length c0_1] 35 (0, 0)) (by (with_reducible repeat (first | refine blk_drewN ?_ _ | refine blk_drew ?_ | refine blk_alloc ?_ _)); refine blk_far ?_ NB193_195.out _; (with_reducible repeat (first | refine blk_drewN ?_ _ | refine blk_drew ?_ | refine blk_alloc ?_ _)); refine blk_far ?_ NB193_195.out _; (with_reducible repeat (first | refine blk_drewN ?_ _ | refine blk_drew ?_ | refine blk_alloc ?_ _)); refine blk_far ?_ NB193_195.out _; (with_reducible repeat (first | refine blk_drewN ?_ _ | refine blk_drew ?_ | refine blk_alloc ?_ _)); exact BK193.out) hb); have n1_ := Aside0.mk (blk_below (g := gb195) (o := .cells #[.int .i64 ((rd_T139 l0_1 x22_2).f0), .int .i64 ((rd_T139 l0_1 x22_2).f1), .int .i64 ((rd_T139 l0_1 x22_2).f2)] 139 (0, 0)) (by (with_reducible repeat (first | refine blk_drewN ?_ _ | refine blk_drew ?_ | refine blk_alloc ?_ _)); refine blk_put (cs := #[.int .i64 ((rd_T139 l0_1 x22_2).f0), .int .i64 ((rd_T139 l0_1 x22_2).f1), .int .i64 0]) ?_ 2 _ rfl; (with_reducible repeat (first | refine blk_drewN ?_ _ | refine blk_drew ?_ | refine blk_alloc ?_ _)); refine blk_put (cs := #[.int .i64 ((rd_T139 l0_1 x22_2).f0), .int .i64 0, .int .i64 0]) ?_ 1 _ rfl; (with_reducible repeat (first | refine blk_drewN ?_ _ | refine blk_drew ?_ | refine blk_alloc ?_ _)); refine blk_put (cs := #[.int .i64 0, .int .i64 0, .int .i64 0]) ?_ 0 _ rfl; (with_reducible repeat (first | refine blk_drewN ?_ _ | refine blk_drew ?_ | refine blk_alloc ?_ _)); exact BK195.out) hb); have n2_ := Aside0.mk (below_step bw hb); clear BK193 BK195 HB; have BK193 := n0_; have BK195 := n1_; have HB := n2_; clear n0_ n1_ n2_; (try clear hb); (try clear hb2); (try clear hk); (try clear hi); have hcz53_0 : w52.cell? ⟨gb193, 0, none⟩ = some (.int .i64 a0_0) := (blk_cell BK193.out 0).trans rfl; have hcz53_1 : w52.cell? ⟨gb193, 1, none⟩ = some (.slice (some ad194) l0_1.length c0_1) := (blk_cell BK193.out 1).trans rfl; have hfz53_0 := blk_frozen BK193.out 0; have hfz53_1 := blk_frozen BK193.out 1; have hcz54_0 : w52.cell? ⟨gb195, 0, none⟩ = some (.int .i64 ((rd_T139 l0_1 x22_2).f0)) := (blk_cell BK195.out 0).trans rfl; have hcz54_1 : w52.cell? ⟨gb195, 1, none⟩ = some (.int .i64 ((rd_T139 l0_1 x22_2).f1)) := (blk_cell BK195.out 1).trans rfl; have hcz54_2 : w52.cell? ⟨gb195, 2, none⟩ = some (.int .i64 ((rd_T139 l0_1 x22_2).f2)) := (blk_cell BK195.out 2).trans rfl; have hfz54_0 := blk_frozen BK195.out 0; have hfz54_1 := blk_frozen BK195.out 1; have hfz54_2 := blk_frozen BK195.out 2; have TK2_ := Aside0.mk trivial) | (clear TK2_; go_at_call 125; (with_reducible refine (impl_Net_hasBus.calls a0_0 _ _ l0_1 ((rd_T139 l0_1 x22_2).f1) true _ ?side1 ?side2 A16.out).mono ?_); (case side1 => exact cb HR0_1); (case side2 => exact HC0_1.out); rintro e w55 ⟨rfl, hb⟩; have n0_ := bkB BK193 hb; have n1_ := bkB BK195 hb; have n2_ := Aside0.mk (below_step bw hb); clear BK193 BK195 HB; have BK193 := n0_; have BK195 := n1_; have HB := n2_; clear n0_ n1_ n2_; (try clear hb); (try clear hb2); (try clear hk); (try clear hi); have hcz56_0 : w55.cell? ⟨gb195, 0, none⟩ = some (.int .i64 ((rd_T139 l0_1 x22_2).f0)) := (blk_cell BK195.out 0).trans rfl; have hcz56_1 : w55.cell? ⟨gb195, 1, none⟩ = some (.int .i64 ((rd_T139 l0_1 x22_2).f1)) := (blk_cell BK195.out 1).trans rfl; have hcz56_2 : w55.cell? ⟨gb195, 2, none⟩ = some (.int .i64 ((rd_T139 l0_1 x22_2).f2)) := (blk_cell BK195.out 2).trans rfl; have hfz56_0 := blk_frozen BK195.out 0; have hfz56_1 := blk_frozen BK195.out 1; have hfz56_2 := blk_frozen BK195.out 2; have TK3_ := Aside0.mk trivial))
              go_roundg k2
              case measure => have := HJ1.out; have := HK2.out; omega
              case rel => exact ⟨(wrap64 (x22_2 + 1)), (by first | rfl | (simp; done) | (simp [*]; done)), H', ⟨by have := HJ1.out; have := HK2.out; omega⟩, ⟨bk BK193⟩, ⟨bw⟩⟩
          ·replace c17 := Bool.eq_false_iff.mpr c17
           subst c17
           have H1 : (some false) = some r := by rw [if_neg (show ¬ (false = true) by decide)] at H; exact H
           clear H
           have H := H1
           clear H1
           obtain rfl := Option.some.inj H
           have p194 : 0 ≤ (x22_2 : Int) := of_decide_eq_true (by first | (with_reducible assumption) | assumption)
           have q194 : x22_2 < (l0_1.length : Int) := of_decide_eq_true (by first | (with_reducible assumption) | assumption)
           obtain ⟨ad194, e194, hx194_0, hx194_1, hx194_2⟩ := at_T139 HR0_1.out x22_2 p194 q194
           cases e194
           replace hx194_0 := (HB.out.cell (World.block_lt_of_cell? w _ hx194_0)).trans hx194_0
           replace hx194_1 := (HB.out.cell (World.block_lt_of_cell? w _ hx194_1)).trans hx194_1
           replace hx194_2 := (HB.out.cell (World.block_lt_of_cell? w _ hx194_2)).trans hx194_2
           replace p194 := eq_true p194
           replace q194 := eq_true q194
           have TK0_ := Aside0.mk trivial
           go_wp2_with (first | (clear TK0_; (with_reducible refine gate_dst (N := 4) rfl ?_); (try (refine gate_guard (by rfl) ?_; dsimp only)); refine box_event ?hg (N := 4) ?hd (cs := #[.int .i64 0, .int .i64 0, .int .i64 0]) (t := 139) ?hr ?_; (case hd => rfl); (case hg => rfl); (case hr => first | (go_simp; done) | (go_simp; rfl)); intro gb195 hg w57 hbox hb; have n0_ := bkB BK193 hb; have n1_ := Aside0.mk (below_step bw hb); have n2_ := Aside0.mk (hbox); have n3_ := Aside0.mk ((by rw [hg]; exact (below_size bw) : w.heap.size ≤ gb195)); have n4_ := Aside0.mk ((by rw [hg]; exact (below_size bw) : w.heap.size ≤ gb195)); have n5_ := Aside0.mk ((by rw [hg]; exact Nat.ne_of_lt (blk_lt (g := gb193) (o := .cells #[.int .i64 a0_0, .slice (some ad194) l0_1.length c0_1] 35 (0, 0)) (bk BK193)) : gb193 ≠ gb195)); have n6_ := Aside0.mk ((by rw [hg]; exact Nat.ne_of_gt (blk_lt (g := gb193) (o := .cells #[.int .i64 a0_0, .slice (some ad194) l0_1.length c0_1] 35 (0, 0)) (bk BK193)) : gb195 ≠ gb193)); clear BK193 HB; have BK193 := n0_; have HB := n1_; have BK195 := n2_; have GW195 := n3_; have GE195 := n4_; have NB193_195 := n5_; have NB195_193 := n6_; clear n0_ n1_ n2_ n3_ n4_ n5_ n6_; clear hb hbox hg; have hnb58 := NB195_193.out; have hnc58 := NB193_195.out; have hcz59_0 : w57.cell? ⟨gb195, 0, none⟩ = some (.int .i64 0) := (blk_cell BK195.out 0).trans rfl; have hcz59_1 : w57.cell? ⟨gb195, 1, none⟩ = some (.int .i64 0) := (blk_cell BK195.out 1).trans rfl; have hcz59_2 : w57.cell? ⟨gb195, 2, none⟩ = some (.int .i64 0) := (blk_cell BK195.out 2).trans rfl; have hfz59_0 := blk_frozen BK195.out 0; have hfz59_1 := blk_frozen BK195.out 1; have hfz59_2 := blk_frozen BK195.out 2; have hcz60_0 : w57.cell? ⟨gb193, 0, none⟩ = some (.int .i64 a0_0) := (blk_cell BK193.out 0).trans rfl; have hcz60_1 : w57.cell? ⟨gb193, 1, none⟩ = some (.slice (some ad194) l0_1.length c0_1) := (blk_cell BK193.out 1).trans rfl; have hfz60_0 := blk_frozen BK193.out 0; have hfz60_1 := blk_frozen BK193.out 1; have TK1_ := Aside0.mk trivial) | (clear TK1_; (with_reducible refine gate_callee (f := 125) rfl ?_); refine goesL_ (some 29) rfl rfl Try.func125 (by kernel_rfl) rfl #[.agg #[.int .i64 a0_0, .slice (some ad194) l0_1.length c0_1], .int .i64 ((rd_T139 l0_1 x22_2).f0)] rfl (by (try simp only [List.map_toArray, List.map_cons, List.map_nil]); first | done | rfl | (simp only [List.length_drop, List.length_take]; rfl)) ?_; (with_reducible refine (impl_Net_hasBus.calls a0_0 _ _ l0_1 ((rd_T139 l0_1 x22_2).f0) true _ ?side1 ?side2 A14.out).mono ?_); (case side1 => exact Kd.C_below HR0_1.out bw); (case side2 => exact HC0_1.out); rintro e w61 ⟨rfl, hb⟩; refine ⟨_, rfl, ?_⟩; have n0_ := Aside0.mk (blk_below (g := gb193) (o := .cells #[.int .i64 a0_0, .slice (some ad194) l0_1.length c0_1] 35 (0, 0)) (by (with_reducible repeat (first | refine blk_drewN ?_ _ | refine blk_drew ?_ | refine blk_alloc ?_ _)); refine blk_far ?_ NB193_195.out _; (with_reducible repeat (first | refine blk_drewN ?_ _ | refine blk_drew ?_ | refine blk_alloc ?_ _)); refine blk_far ?_ NB193_195.out _; (with_reducible repeat (first | refine blk_drewN ?_ _ | refine blk_drew ?_ | refine blk_alloc ?_ _)); refine blk_far ?_ NB193_195.out _; (with_reducible repeat (first | refine blk_drewN ?_ _ | refine blk_drew ?_ | refine blk_alloc ?_ _)); exact BK193.out) hb); have n1_ := Aside0.mk (blk_below (g := gb195) (o := .cells #[.int .i64 ((rd_T139 l0_1 x22_2).f0), .int .i64 ((rd_T139 l0_1 x22_2).f1), .int .i64 ((rd_T139 l0_1 x22_2).f2)] 139 (0, 0)) (by (with_reducible repeat (first | refine blk_drewN ?_ _ | refine blk_drew ?_ | refine blk_alloc ?_ _)); refine blk_put (cs := #[.int .i64 ((rd_T139 l0_1 x22_2).f0), .int .i64 ((rd_T139 l0_1 x22_2).f1), .int .i64 0]) ?_ 2 _ rfl; (with_reducible repeat (first | refine blk_drewN ?_ _ | refine blk_drew ?_ | refine blk_alloc ?_ _)); refine blk_put (cs := #[.int .i64 ((rd_T139 l0_1 x22_2).f0), .int .i64 0, .int .i64 0]) ?_ 1 _ rfl; (with_reducible repeat (first | refine blk_drewN ?_ _ | refine blk_drew ?_ | refine blk_alloc ?_ _)); refine blk_put (cs := #[.int .i64 0, .int .i64 0, .int .i64 0]) ?_ 0 _ rfl; (with_reducible repeat (first | refine blk_drewN ?_ _ | refine blk_drew ?_ | refine blk_alloc ?_ _)); exact BK195.out) hb); have n2_ := Aside0.mk (below_step bw hb); clear BK193 BK195 HB; have BK193 := n0_; have BK195 := n1_; have HB := n2_; clear n0_ n1_ n2_; (try clear hb); (try clear hb2); (try clear hk); (try clear hi); have hcz62_0 : w61.cell? ⟨gb193, 0, none⟩ = some (.int .i64 a0_0) := (blk_cell BK193.out 0).trans rfl; have hcz62_1 : w61.cell? ⟨gb193, 1, none⟩ = some (.slice (some ad194) l0_1.length c0_1) := (blk_cell BK193.out 1).trans rfl; have hfz62_0 := blk_frozen BK193.out 0; have hfz62_1 := blk_frozen BK193.out 1; have hcz63_0 : w61.cell? ⟨gb195, 0, none⟩ = some (.int .i64 ((rd_T139 l0_1 x22_2).f0)) := (blk_cell BK195.out 0).trans rfl; have hcz63_1 : w61.cell? ⟨gb195, 1, none⟩ = some (.int .i64 ((rd_T139 l0_1 x22_2).f1)) := (blk_cell BK195.out 1).trans rfl; have hcz63_2 : w61.cell? ⟨gb195, 2, none⟩ = some (.int .i64 ((rd_T139 l0_1 x22_2).f2)) := (blk_cell BK195.out 2).trans rfl; have hfz63_0 := blk_frozen BK195.out 0; have hfz63_1 := blk_frozen BK195.out 1; have hfz63_2 := blk_frozen BK195.out 2; have TK2_ := Aside0.mk trivial) | (clear TK2_; go_at_call 125; (with_reducible refine (impl_Net_hasBus.calls a0_0 _ _ l0_1 ((rd_T139 l0_1 x22_2).f1) false _ ?side1 ?side2 A16.out).mono ?_); (case side1 => exact cb HR0_1); (case side2 => exact HC0_1.out); rintro e w64 ⟨rfl, hb⟩; have n0_ := bkB BK193 hb; have n1_ := bkB BK195 hb; have n2_ := Aside0.mk (below_step bw hb); clear BK193 BK195 HB; have BK193 := n0_; have BK195 := n1_; have HB := n2_; clear n0_ n1_ n2_; (try clear hb); (try clear hb2); (try clear hk); (try clear hi); have TK3_ := Aside0.mk trivial))
           go_ret
           exact ⟨by first | rfl | (simp [errW_none, errW_some] <;> rfl) | (simp [*, errW_none, errW_some] <;> rfl), bw⟩
         ·replace c15 := Bool.eq_false_iff.mpr c15
          subst c15
          have H1 : (some false) = some r := by rw [if_neg (show ¬ (false = true) by decide)] at H; exact H
          clear H
          have H := H1
          clear H1
          obtain rfl := Option.some.inj H
          have p194 : 0 ≤ (x22_2 : Int) := of_decide_eq_true (by first | (with_reducible assumption) | assumption)
          have q194 : x22_2 < (l0_1.length : Int) := of_decide_eq_true (by first | (with_reducible assumption) | assumption)
          obtain ⟨ad194, e194, hx194_0, hx194_1, hx194_2⟩ := at_T139 HR0_1.out x22_2 p194 q194
          cases e194
          replace hx194_0 := (HB.out.cell (World.block_lt_of_cell? w _ hx194_0)).trans hx194_0
          replace hx194_1 := (HB.out.cell (World.block_lt_of_cell? w _ hx194_1)).trans hx194_1
          replace hx194_2 := (HB.out.cell (World.block_lt_of_cell? w _ hx194_2)).trans hx194_2
          replace p194 := eq_true p194
          replace q194 := eq_true q194
          go_wp2_with (first | ((with_reducible refine gate_dst (N := 4) rfl ?_); (try (refine gate_guard (by rfl) ?_; dsimp only)); refine box_event ?hg (N := 4) ?hd (cs := #[.int .i64 0, .int .i64 0, .int .i64 0]) (t := 139) ?hr ?_; (case hd => rfl); (case hg => rfl); (case hr => first | (go_simp; done) | (go_simp; rfl)); intro gb195 hg w65 hbox hb; have n0_ := bkB BK193 hb; have n1_ := Aside0.mk (below_step bw hb); have n2_ := Aside0.mk (hbox); have n3_ := Aside0.mk ((by rw [hg]; exact (below_size bw) : w.heap.size ≤ gb195)); have n4_ := Aside0.mk ((by rw [hg]; exact (below_size bw) : w.heap.size ≤ gb195)); have n5_ := Aside0.mk ((by rw [hg]; exact Nat.ne_of_lt (blk_lt (g := gb193) (o := .cells #[.int .i64 a0_0, .slice (some ad194) l0_1.length c0_1] 35 (0, 0)) (bk BK193)) : gb193 ≠ gb195)); have n6_ := Aside0.mk ((by rw [hg]; exact Nat.ne_of_gt (blk_lt (g := gb193) (o := .cells #[.int .i64 a0_0, .slice (some ad194) l0_1.length c0_1] 35 (0, 0)) (bk BK193)) : gb195 ≠ gb193)); clear BK193 HB; have BK193 := n0_; have HB := n1_; have BK195 := n2_; have GW195 := n3_; have GE195 := n4_; have NB193_195 := n5_; have NB195_193 := n6_; clear n0_ n1_ n2_ n3_ n4_ n5_ n6_; clear hb hbox hg; have hnb66 := NB195_193.out; have hnc66 := NB193_195.out; have hcz67_0 : w65.cell? ⟨gb195, 0, none⟩ = some (.int .i64 0) := (blk_cell BK195.out 0).trans rfl; have hcz67_1 : w65.cell? ⟨gb195, 1, none⟩ = some (.int .i64 0) := (blk_cell BK195.out 1).trans rfl; have hcz67_2 : w65.cell? ⟨gb195, 2, none⟩ = some (.int .i64 0) := (blk_cell BK195.out 2).trans rfl; have hfz67_0 := blk_frozen BK195.out 0; have hfz67_1 := blk_frozen BK195.out 1; have hfz67_2 := blk_frozen BK195.out 2; have hcz68_0 : w65.cell? ⟨gb193, 0, none⟩ = some (.int .i64 a0_0) := (blk_cell BK193.out 0).trans rfl; have hcz68_1 : w65.cell? ⟨gb193, 1, none⟩ = some (.slice (some ad194) l0_1.length c0_1) := (blk_cell BK193.out 1).trans rfl; have hfz68_0 := blk_frozen BK193.out 0; have hfz68_1 := blk_frozen BK193.out 1) | ((with_reducible refine gate_callee (f := 125) rfl ?_); refine goesL_ (some 29) rfl rfl Try.func125 (by kernel_rfl) rfl #[.agg #[.int .i64 a0_0, .slice (some ad194) l0_1.length c0_1], .int .i64 ((rd_T139 l0_1 x22_2).f0)] rfl (by (try simp only [List.map_toArray, List.map_cons, List.map_nil]); first | done | rfl | (simp only [List.length_drop, List.length_take]; rfl)) ?_; (with_reducible refine (impl_Net_hasBus.calls a0_0 _ _ l0_1 ((rd_T139 l0_1 x22_2).f0) false _ ?side1 ?side2 A14.out).mono ?_); (case side1 => exact Kd.C_below HR0_1.out bw); (case side2 => exact HC0_1.out); rintro e w69 ⟨rfl, hb⟩; refine ⟨_, rfl, ?_⟩; have n0_ := Aside0.mk (blk_below (g := gb193) (o := .cells #[.int .i64 a0_0, .slice (some ad194) l0_1.length c0_1] 35 (0, 0)) (by (with_reducible repeat (first | refine blk_drewN ?_ _ | refine blk_drew ?_ | refine blk_alloc ?_ _)); refine blk_far ?_ NB193_195.out _; (with_reducible repeat (first | refine blk_drewN ?_ _ | refine blk_drew ?_ | refine blk_alloc ?_ _)); refine blk_far ?_ NB193_195.out _; (with_reducible repeat (first | refine blk_drewN ?_ _ | refine blk_drew ?_ | refine blk_alloc ?_ _)); refine blk_far ?_ NB193_195.out _; (with_reducible repeat (first | refine blk_drewN ?_ _ | refine blk_drew ?_ | refine blk_alloc ?_ _)); exact BK193.out) hb); have n1_ := Aside0.mk (blk_below (g := gb195) (o := .cells #[.int .i64 ((rd_T139 l0_1 x22_2).f0), .int .i64 ((rd_T139 l0_1 x22_2).f1), .int .i64 ((rd_T139 l0_1 x22_2).f2)] 139 (0, 0)) (by (with_reducible repeat (first | refine blk_drewN ?_ _ | refine blk_drew ?_ | refine blk_alloc ?_ _)); refine blk_put (cs := #[.int .i64 ((rd_T139 l0_1 x22_2).f0), .int .i64 ((rd_T139 l0_1 x22_2).f1), .int .i64 0]) ?_ 2 _ rfl; (with_reducible repeat (first | refine blk_drewN ?_ _ | refine blk_drew ?_ | refine blk_alloc ?_ _)); refine blk_put (cs := #[.int .i64 ((rd_T139 l0_1 x22_2).f0), .int .i64 0, .int .i64 0]) ?_ 1 _ rfl; (with_reducible repeat (first | refine blk_drewN ?_ _ | refine blk_drew ?_ | refine blk_alloc ?_ _)); refine blk_put (cs := #[.int .i64 0, .int .i64 0, .int .i64 0]) ?_ 0 _ rfl; (with_reducible repeat (first | refine blk_drewN ?_ _ | refine blk_drew ?_ | refine blk_alloc ?_ _)); exact BK195.out) hb); have n2_ := Aside0.mk (below_step bw hb); clear BK193 BK195 HB; have BK193 := n0_; have BK195 := n1_; have HB := n2_; clear n0_ n1_ n2_; (try clear hb); (try clear hb2); (try clear hk); (try clear hi)))
          go_ret
          exact ⟨by first | rfl | (simp [errW_none, errW_some] <;> rfl) | (simp [*, errW_none, errW_some] <;> rfl), bw⟩
        ·rw [if_neg c13] at H
         exact absurd H (by simp)
       ·rw [if_neg c12] at H
        exact absurd H (by simp)
      ·rw [if_neg c11] at H
       have c11b0 : decide (x22_2 < (l0_1.length : Int)) = false := decide_eq_false c11
       clear c11
       obtain rfl := Option.some.inj H
       go_wp2
       go_ret
       exact ⟨by first | rfl | (simp [errW_none, errW_some] <;> rfl) | (simp [*, errW_none, errW_some] <;> rfl), bw⟩

/-! ### impl_StateValid: function 69 -/
def impl_StateValid.f (k : Nat) (a0_0 : Int) (l0_1 : List (S139)) (l1 : List Bool) : Option (Bool) := (impl_NetValid.f k a0_0 l0_1).bind fun t199 => (if t199 = true then (some ((l1.length : Int) == (l0_1.length : Int))) else (some false))
theorem impl_StateValid.mono : ∀ a0 a1 a2 k, LeO (impl_StateValid.f k a0 a1 a2) (impl_StateValid.f (k + 1) a0 a1 a2) := by
 intro a0 a1 a2 k
 unfold impl_StateValid.f
 repeat' first
   | (with_reducible exact impl_NetValid.mono _ _ _)
   | (with_reducible exact LeO.refl _)
   | (with_reducible exact LeO.none _)
   | (with_reducible refine LeO.ite ?_ ?_)
   | (with_reducible refine LeO.bind ?_ (fun _ => ?_))
   | exact impl_NetValid.mono _ _ _
   | exact LeO.none _
   | refine LeO.ite ?_ ?_
   | refine LeO.bind ?_ (fun _ => ?_)
set_option maxHeartbeats 8000000 in
set_option maxRecDepth 100000 in
theorem impl_StateValid.calls (k : Nat) (a0_0 : Int) (A0_1 : Option Addr) (c0_1 : Nat) (l0_1 : List (S139)) (A1 : Option Addr) (c1 : Nat) (l1 : List Bool) (r : Bool) (w : World) (hr0_1 : Kd.C k139 w A0_1 l0_1.length l0_1) (hc0_1 : l0_1.length ≤ c0_1) (hr1 : Kd.C Kd.bool w A1 l1.length l1) (hc1 : l1.length ≤ c1) (h : impl_StateValid.f k a0_0 l0_1 l1 = some r) :
  Calls Try.prog 69 #[.agg #[.int .i64 a0_0, .slice A0_1 l0_1.length c0_1], .slice A1 l1.length c1] w fun e w' => e = .returned (.bool r) ∧ Below w.heap.size w w' := by
 have hu35 := Try.underlying35
 have HR0_1 := Aside0.mk hr0_1
 have HC0_1 := Aside0.mk hc0_1
 clear hr0_1 hc0_1
 have HR1 := Aside0.mk hr1
 have HC1 := Aside0.mk hc1
 clear hr1 hc1
 have HB := Aside0.mk (Below.refl w.heap.size w)
 have H : ((impl_NetValid.f k a0_0 l0_1).bind fun t199 => (if t199 = true then (some ((l1.length : Int) == (l0_1.length : Int))) else (some false))) = some r := h
 clear h
 replace H := Option.bind_eq_some_iff.mp H
 obtain ⟨t199, A30, H⟩ := H
 replace H : (if t199 = true then (some ((l1.length : Int) == (l0_1.length : Int))) else (some false)) = some r := H
 have A3 := Aside0.mk A30
 clear A30
 by_cases c4 : t199 = true
 ·subst c4
  have H1 : (some ((l1.length : Int) == (l0_1.length : Int))) = some r := by rw [if_pos rfl] at H; exact H
  clear H
  have H := H1
  clear H1
  obtain rfl := Option.some.inj H
  go_enter Try.func69, Try.ntmps69
  go_wp2_with (first | ((with_reducible refine gate_dst (N := 2) rfl ?_); (try (refine gate_guard (by rfl) ?_; dsimp only)); refine box_event ?hg (N := 2) ?hd (cs := #[.int .i64 a0_0, .slice A0_1 l0_1.length c0_1]) (t := 35) ?hr ?_; (case hd => rfl); (case hg => rfl); (case hr => first | (go_simp; done) | (go_simp; rfl)); intro gb198 hg w5 hbox hb; have n0_ := Aside0.mk (below_step bw hb); have n1_ := Aside0.mk (hbox); have n2_ := Aside0.mk ((by rw [hg]; exact (below_size bw) : w.heap.size ≤ gb198)); have n3_ := Aside0.mk ((by rw [hg]; exact (below_size bw) : w.heap.size ≤ gb198)); clear HB; have HB := n0_; have BK198 := n1_; have GW198 := n2_; have GE198 := n3_; clear n0_ n1_ n2_ n3_; clear hb hbox hg; have hcz6_0 : w5.cell? ⟨gb198, 0, none⟩ = some (.int .i64 a0_0) := (blk_cell BK198.out 0).trans rfl; have hcz6_1 : w5.cell? ⟨gb198, 1, none⟩ = some (.slice A0_1 l0_1.length c0_1) := (blk_cell BK198.out 1).trans rfl; have hfz6_0 := blk_frozen BK198.out 0; have hfz6_1 := blk_frozen BK198.out 1) | ((with_reducible refine gate_callee (f := 108) rfl ?_); refine goesL_ (some 6) rfl rfl Try.func108 (by kernel_rfl) rfl #[.agg #[.int .i64 a0_0, .slice A0_1 l0_1.length c0_1]] rfl (by (try simp only [List.map_toArray, List.map_cons, List.map_nil]); first | done | rfl | (simp only [List.length_drop, List.length_take]; rfl)) ?_; (with_reducible refine (impl_NetValid.calls k a0_0 _ _ l0_1 true _ ?side1 ?side2 A3.out).mono ?_); (case side1 => exact cb HR0_1); (case side2 => exact HC0_1.out); rintro e w7 ⟨rfl, hb⟩; refine ⟨_, rfl, ?_⟩; have n0_ := bkB BK198 hb; have n1_ := Aside0.mk (below_step bw hb); clear BK198 HB; have BK198 := n0_; have HB := n1_; clear n0_ n1_; (try clear hb); (try clear hb2); (try clear hk); (try clear hi); have hcz8_0 : w7.cell? ⟨gb198, 0, none⟩ = some (.int .i64 a0_0) := (blk_cell BK198.out 0).trans rfl; have hcz8_1 : w7.cell? ⟨gb198, 1, none⟩ = some (.slice A0_1 l0_1.length c0_1) := (blk_cell BK198.out 1).trans rfl; have hfz8_0 := blk_frozen BK198.out 0; have hfz8_1 := blk_frozen BK198.out 1))
  go_ret
  exact ⟨by first | rfl | (simp [errW_none, errW_some] <;> rfl) | (simp [*, errW_none, errW_some] <;> rfl), bw⟩
 ·replace c4 := Bool.eq_false_iff.mpr c4
  subst c4
  have H1 : (some false) = some r := by rw [if_neg (show ¬ (false = true) by decide)] at H; exact H
  clear H
  have H := H1
  clear H1
  obtain rfl := Option.some.inj H
  go_enter Try.func69, Try.ntmps69
  go_wp2_with (first | ((with_reducible refine gate_dst (N := 2) rfl ?_); (try (refine gate_guard (by rfl) ?_; dsimp only)); refine box_event ?hg (N := 2) ?hd (cs := #[.int .i64 a0_0, .slice A0_1 l0_1.length c0_1]) (t := 35) ?hr ?_; (case hd => rfl); (case hg => rfl); (case hr => first | (go_simp; done) | (go_simp; rfl)); intro gb198 hg w9 hbox hb; have n0_ := Aside0.mk (below_step bw hb); have n1_ := Aside0.mk (hbox); have n2_ := Aside0.mk ((by rw [hg]; exact (below_size bw) : w.heap.size ≤ gb198)); have n3_ := Aside0.mk ((by rw [hg]; exact (below_size bw) : w.heap.size ≤ gb198)); clear HB; have HB := n0_; have BK198 := n1_; have GW198 := n2_; have GE198 := n3_; clear n0_ n1_ n2_ n3_; clear hb hbox hg; have hcz10_0 : w9.cell? ⟨gb198, 0, none⟩ = some (.int .i64 a0_0) := (blk_cell BK198.out 0).trans rfl; have hcz10_1 : w9.cell? ⟨gb198, 1, none⟩ = some (.slice A0_1 l0_1.length c0_1) := (blk_cell BK198.out 1).trans rfl; have hfz10_0 := blk_frozen BK198.out 0; have hfz10_1 := blk_frozen BK198.out 1) | ((with_reducible refine gate_callee (f := 108) rfl ?_); refine goesL_ (some 6) rfl rfl Try.func108 (by kernel_rfl) rfl #[.agg #[.int .i64 a0_0, .slice A0_1 l0_1.length c0_1]] rfl (by (try simp only [List.map_toArray, List.map_cons, List.map_nil]); first | done | rfl | (simp only [List.length_drop, List.length_take]; rfl)) ?_; (with_reducible refine (impl_NetValid.calls k a0_0 _ _ l0_1 false _ ?side1 ?side2 A3.out).mono ?_); (case side1 => exact cb HR0_1); (case side2 => exact HC0_1.out); rintro e w11 ⟨rfl, hb⟩; refine ⟨_, rfl, ?_⟩; have n0_ := bkB BK198 hb; have n1_ := Aside0.mk (below_step bw hb); clear BK198 HB; have BK198 := n0_; have HB := n1_; clear n0_ n1_; (try clear hb); (try clear hb2); (try clear hk); (try clear hi)))
  go_ret
  exact ⟨by first | rfl | (simp [errW_none, errW_some] <;> rfl) | (simp [*, errW_none, errW_some] <;> rfl), bw⟩

/-! ### impl_OrderValid: function 70 -/
def impl_OrderValid.l0 : Nat → List (S98) → Int → Int → Option (Bool)
 | 0, _, _, _ => none
 | k + 1, x8, x9, x10 => if x10 < x9 then (if 0 ≤ x10 then (if x10 < (x8.length : Int) then (if ((rd_T98 x8 x10).f0) < 0 then (some false) else (if ((rd_T98 x8 x10).f0) ≥ 10 then (some false) else (impl_OrderValid.l0 k x8 x9 (wrap64 (x10 + 1))))) else (none)) else (none)) else (some true)
def impl_OrderValid.f (k : Nat) (l0 : List (S98)) : Option (Bool) := if (l0.length : Int) > 12 then (some false) else (impl_OrderValid.l0 k l0 (l0.length : Int) 0)
theorem impl_OrderValid.mono_l : ∀ k, (∀ y0 y1 y2, LeO (impl_OrderValid.l0 k y0 y1 y2) (impl_OrderValid.l0 (k + 1) y0 y1 y2))
 | 0 => fun _ _ _ r h => by simp [impl_OrderValid.l0] at h
 | k + 1 => by
  have ih0 := impl_OrderValid.mono_l k
  ·intro y0 y1 y2
   unfold impl_OrderValid.l0
   repeat' first
   | (with_reducible exact ih0 _ _ _)
   | (with_reducible exact LeO.refl _)
   | (with_reducible exact LeO.none _)
   | (with_reducible refine LeO.ite ?_ ?_)
   | (with_reducible refine LeO.bind ?_ (fun _ => ?_))
   | exact ih0 _ _ _
   | exact LeO.none _
   | refine LeO.ite ?_ ?_
   | refine LeO.bind ?_ (fun _ => ?_)
theorem impl_OrderValid.mono : ∀ a0 k, LeO (impl_OrderValid.f k a0) (impl_OrderValid.f (k + 1) a0) := by
 intro a0 k
 have ih0 := impl_OrderValid.mono_l k
 unfold impl_OrderValid.f
 repeat' first
   | (with_reducible exact ih0 _ _ _)
   | (with_reducible exact LeO.refl _)
   | (with_reducible exact LeO.none _)
   | (with_reducible refine LeO.ite ?_ ?_)
   | (with_reducible refine LeO.bind ?_ (fun _ => ?_))
   | exact ih0 _ _ _
   | exact LeO.none _
   | refine LeO.ite ?_ ?_
   | refine LeO.bind ?_ (fun _ => ?_)
set_option maxHeartbeats 8000000 in
set_option maxRecDepth 100000 in
theorem impl_OrderValid.calls (k : Nat) (A0 : Option Addr) (c0 : Nat) (l0 : List (S98)) (r : Bool) (w : World) (hr0 : Kd.C k98 w A0 l0.length l0) (hc0 : l0.length ≤ c0) (h : impl_OrderValid.f k l0 = some r) :
  Calls Try.prog 70 #[.slice A0 l0.length c0] w fun e w' => e = .returned (.bool r) ∧ Below w.heap.size w w' := by
 have hu98 := Try.underlying98
 have HR0 := Aside0.mk hr0
 have HC0 := Aside0.mk hc0
 clear hr0 hc0
 have HB := Aside0.mk (Below.refl w.heap.size w)
 have H : (if (l0.length : Int) > 12 then (some false) else (impl_OrderValid.l0 k l0 (l0.length : Int) 0)) = some r := h
 clear h
 by_cases c2 : (l0.length : Int) > 12
 ·rw [if_pos c2] at H
  have c2b0 : decide (12 < (l0.length : Int)) = true := decide_eq_true c2
  have c2b1 : decide (12 < l0.length) = true := decide_eq_true (by omega)
  clear c2
  obtain rfl := Option.some.inj H
  go_enter Try.func70, Try.ntmps70
  go_wp2
  go_ret
  exact ⟨by first | rfl | (simp [errW_none, errW_some] <;> rfl) | (simp [*, errW_none, errW_some] <;> rfl), bw⟩
 ·rw [if_neg c2] at H
  have c2b0 : decide (12 < (l0.length : Int)) = false := decide_eq_false c2
  have c2b1 : decide (12 < l0.length) = false := decide_eq_false (by omega)
  clear c2
  have H' := Aside0.mk H
  clear H
  go_enter Try.func70, Try.ntmps70
  go_wp2
  go_loopg [10] k (fun kq v10 w' => ∃ (x10_1 : Int), v10 = .int .i64 x10_1 ∧ Aside0 (impl_OrderValid.l0 kq l0 (l0.length : Int) x10_1 = some r) ∧ Aside0 (kq ≤ k) ∧ Aside0 (Below w.heap.size w w'))
  case atStart => exact ⟨(0), (by first | rfl | (simp; done) | (simp [*]; done)), H', ⟨Nat.le_refl _⟩, ⟨bw⟩⟩
  case round =>
   clear H'
   try clear c2
   try clear c2b0
   try clear c2b1
   try clear p2
   obtain ⟨x10_1, rfl, HA, HK1, HB⟩ := hrel
   cases gk with
   | zero => exact absurd HA.out (by simp [impl_OrderValid.l0])
   | succ k1 =>
    have H := HA.out
    clear HA
    simp only [impl_OrderValid.l0] at H
    by_cases c3 : x10_1 < (l0.length : Int)
    ·rw [if_pos c3] at H
     have c3b0 : decide (x10_1 < (l0.length : Int)) = true := decide_eq_true c3
     clear c3
     by_cases c4 : 0 ≤ x10_1
     ·rw [if_pos c4] at H
      have c4b0 : decide (0 ≤ x10_1) = true := decide_eq_true c4
      clear c4
      by_cases c5 : x10_1 < (l0.length : Int)
      ·rw [if_pos c5] at H
       have c5b0 : decide (x10_1 < (l0.length : Int)) = true := decide_eq_true c5
       clear c5
       by_cases c6 : ((rd_T98 l0 x10_1).f0) < 0
       ·rw [if_pos c6] at H
        have c6b0 : decide (((rd_T98 l0 x10_1).f0) < 0) = true := decide_eq_true c6
        clear c6
        obtain rfl := Option.some.inj H
        have p200 : 0 ≤ (x10_1 : Int) := of_decide_eq_true (by first | (with_reducible assumption) | assumption)
        have q200 : x10_1 < (l0.length : Int) := of_decide_eq_true (by first | (with_reducible assumption) | assumption)
        obtain ⟨ad200, e200, hx200_0, hx200_1⟩ := at_T98 HR0.out x10_1 p200 q200
        cases e200
        replace hx200_0 := (HB.out.cell (World.block_lt_of_cell? w _ hx200_0)).trans hx200_0
        replace hx200_1 := (HB.out.cell (World.block_lt_of_cell? w _ hx200_1)).trans hx200_1
        replace p200 := eq_true p200
        replace q200 := eq_true q200
        go_wp2_with (first | ((with_reducible refine gate_dst (N := 4) rfl ?_); refine box_event ?hg (N := 4) ?hd (cs := #[.int .i64 0, .bool false]) (t := 98) ?hr ?_; (case hd => rfl); (case hg => rfl); (case hr => first | (go_simp; done) | (go_simp; rfl)); intro gb201 hg w7 hbox hb; have n0_ := Aside0.mk (below_step bw hb); have n1_ := Aside0.mk (hbox); have n2_ := Aside0.mk ((by rw [hg]; exact (below_size bw) : w.heap.size ≤ gb201)); have n3_ := Aside0.mk ((by rw [hg]; exact (below_size bw) : w.heap.size ≤ gb201)); clear HB; have HB := n0_; have BK201 := n1_; have GW201 := n2_; have GE201 := n3_; clear n0_ n1_ n2_ n3_; clear hb hbox hg; have hcz8_0 : w7.cell? ⟨gb201, 0, none⟩ = some (.int .i64 0) := (blk_cell BK201.out 0).trans rfl; have hcz8_1 : w7.cell? ⟨gb201, 1, none⟩ = some (.bool false) := (blk_cell BK201.out 1).trans rfl; have hfz8_0 := blk_frozen BK201.out 0; have hfz8_1 := blk_frozen BK201.out 1))
        go_ret
        exact ⟨by first | rfl | (simp [errW_none, errW_some] <;> rfl) | (simp [*, errW_none, errW_some] <;> rfl), bw⟩
       ·rw [if_neg c6] at H
        have c6b0 : decide (((rd_T98 l0 x10_1).f0) < 0) = false := decide_eq_false c6
        clear c6
        by_cases c9 : ((rd_T98 l0 x10_1).f0) ≥ 10
        ·rw [if_pos c9] at H
         have c9b0 : decide (10 ≤ ((rd_T98 l0 x10_1).f0)) = true := decide_eq_true c9
         clear c9
         obtain rfl := Option.some.inj H
         have p200 : 0 ≤ (x10_1 : Int) := of_decide_eq_true (by first | (with_reducible assumption) | assumption)
         have q200 : x10_1 < (l0.length : Int) := of_decide_eq_true (by first | (with_reducible assumption) | assumption)
         obtain ⟨ad200, e200, hx200_0, hx200_1⟩ := at_T98 HR0.out x10_1 p200 q200
         cases e200
         replace hx200_0 := (HB.out.cell (World.block_lt_of_cell? w _ hx200_0)).trans hx200_0
         replace hx200_1 := (HB.out.cell (World.block_lt_of_cell? w _ hx200_1)).trans hx200_1
         replace p200 := eq_true p200
         replace q200 := eq_true q200
         go_wp2_with (first | ((with_reducible refine gate_dst (N := 4) rfl ?_); refine box_event ?hg (N := 4) ?hd (cs := #[.int .i64 0, .bool false]) (t := 98) ?hr ?_; (case hd => rfl); (case hg => rfl); (case hr => first | (go_simp; done) | (go_simp; rfl)); intro gb201 hg w10 hbox hb; have n0_ := Aside0.mk (below_step bw hb); have n1_ := Aside0.mk (hbox); have n2_ := Aside0.mk ((by rw [hg]; exact (below_size bw) : w.heap.size ≤ gb201)); have n3_ := Aside0.mk ((by rw [hg]; exact (below_size bw) : w.heap.size ≤ gb201)); clear HB; have HB := n0_; have BK201 := n1_; have GW201 := n2_; have GE201 := n3_; clear n0_ n1_ n2_ n3_; clear hb hbox hg; have hcz11_0 : w10.cell? ⟨gb201, 0, none⟩ = some (.int .i64 0) := (blk_cell BK201.out 0).trans rfl; have hcz11_1 : w10.cell? ⟨gb201, 1, none⟩ = some (.bool false) := (blk_cell BK201.out 1).trans rfl; have hfz11_0 := blk_frozen BK201.out 0; have hfz11_1 := blk_frozen BK201.out 1))
         go_ret
         exact ⟨by first | rfl | (simp [errW_none, errW_some] <;> rfl) | (simp [*, errW_none, errW_some] <;> rfl), bw⟩
        ·rw [if_neg c9] at H
         have c9b0 : decide (10 ≤ ((rd_T98 l0 x10_1).f0)) = false := decide_eq_false c9
         clear c9
         have H' := Aside0.mk H
         clear H
         have p200 : 0 ≤ (x10_1 : Int) := of_decide_eq_true (by first | (with_reducible assumption) | assumption)
         have q200 : x10_1 < (l0.length : Int) := of_decide_eq_true (by first | (with_reducible assumption) | assumption)
         obtain ⟨ad200, e200, hx200_0, hx200_1⟩ := at_T98 HR0.out x10_1 p200 q200
         cases e200
         replace hx200_0 := (HB.out.cell (World.block_lt_of_cell? w _ hx200_0)).trans hx200_0
         replace hx200_1 := (HB.out.cell (World.block_lt_of_cell? w _ hx200_1)).trans hx200_1
         replace p200 := eq_true p200
         replace q200 := eq_true q200
         go_wp2_with (first | ((with_reducible refine gate_dst (N := 4) rfl ?_); refine box_event ?hg (N := 4) ?hd (cs := #[.int .i64 0, .bool false]) (t := 98) ?hr ?_; (case hd => rfl); (case hg => rfl); (case hr => first | (go_simp; done) | (go_simp; rfl)); intro gb201 hg w12 hbox hb; have n0_ := Aside0.mk (below_step bw hb); have n1_ := Aside0.mk (hbox); have n2_ := Aside0.mk ((by rw [hg]; exact (below_size bw) : w.heap.size ≤ gb201)); have n3_ := Aside0.mk ((by rw [hg]; exact (below_size bw) : w.heap.size ≤ gb201)); clear HB; have HB := n0_; have BK201 := n1_; have GW201 := n2_; have GE201 := n3_; clear n0_ n1_ n2_ n3_; clear hb hbox hg; have hcz13_0 : w12.cell? ⟨gb201, 0, none⟩ = some (.int .i64 0) := (blk_cell BK201.out 0).trans rfl; have hcz13_1 : w12.cell? ⟨gb201, 1, none⟩ = some (.bool false) := (blk_cell BK201.out 1).trans rfl; have hfz13_0 := blk_frozen BK201.out 0; have hfz13_1 := blk_frozen BK201.out 1))
         go_roundg k1
         case measure => have := HK1.out; omega
         case rel => exact ⟨(wrap64 (x10_1 + 1)), (by first | rfl | (simp; done) | (simp [*]; done)), H', ⟨by have := HK1.out; omega⟩, ⟨bw⟩⟩
      ·rw [if_neg c5] at H
       exact absurd H (by simp)
     ·rw [if_neg c4] at H
      exact absurd H (by simp)
    ·rw [if_neg c3] at H
     have c3b0 : decide (x10_1 < (l0.length : Int)) = false := decide_eq_false c3
     clear c3
     obtain rfl := Option.some.inj H
     go_wp2
     go_ret
     exact ⟨by first | rfl | (simp [errW_none, errW_some] <;> rfl) | (simp [*, errW_none, errW_some] <;> rfl), bw⟩

/-! ### slices_Clone_bool_bool: function 71 -/
def slices_Clone_bool_bool.f (l0 : List Bool) : Option (List Bool) := if l0.length < 140737488355328 then some l0 else none
set_option maxHeartbeats 8000000 in
set_option maxRecDepth 100000 in
/-- A copy: of nothing nothing, of a row a row of its own. -/
theorem slices_Clone_bool_bool.calls (A0 : Option Addr) (c0 : Nat) (l0 : List Bool) (r : List Bool) (w : World) (hr0 : Kd.C Kd.bool w A0 l0.length l0) (hc0 : l0.length ≤ c0) (h : slices_Clone_bool_bool.f l0 = some r) :
  Calls Try.prog 71 #[.slice A0 l0.length c0] w fun e w' => ∃ v0_ : Value, e = .returned (v0_) ∧ Kd.R Kd.bool 4 w' w.heap.size (fun _ => True) v0_ r ∧ Below w.heap.size w w' := by
 unfold slices_Clone_bool_bool.f at h
 by_cases hlim : l0.length < 140737488355328
 case neg =>
  rw [if_neg hlim] at h
  cases h
 rw [if_pos hlim] at h
 obtain rfl := Option.some.inj h
 clear h
 cases A0 with
 | none =>
  have hl : l0 = [] := by
   refine List.eq_nil_of_length_eq_zero (Nat.eq_zero_of_not_pos fun hp => ?_)
   obtain ⟨ad, e, _⟩ := hr0.2.2 hp
   cases e
  subst hl
  have qnil : ∀ (w : World) (a : Option Addr) (n c : Nat), (binOp .eql 25 (.slice a n c) (.slice none 0 0)).run Try.prog w = .ok (.bool a.isNone) w := fun w a n c => Lib.run_eql_slice_nil w 25 4 a n c 0 0 Try.underlying25
  go_enter Try.func71, Try.ntmps71
  go_wp2
  go_ret
  exact ⟨_, rfl, Kd.R_nil _ _ _ _ _, by repeat (first | (with_reducible first | exact Below.refl _ _ | apply below_alloc | apply pw_below_drewN | apply below_drew1) | exact Below.refl _ _)⟩
 | some a =>
  have HR0 := Aside0.mk hr0
  have HC0 := Aside0.mk hc0
  clear hr0 hc0
  have HB := Aside0.mk (Below.refl w.heap.size w)
  obtain ⟨y160, hy160⟩ : ∃ y_ : List Bool, y_ = (([] : List Bool)) := ⟨_, rfl⟩
  have Ny160 := Aside0.mk hy160
  have LMc2 : Aside0 (y160.length + l0.length < 140737488355328) := ⟨by rw [hy160]; simpa using hlim⟩
  obtain ⟨y163, hy163⟩ : ∃ y_ : List Bool, y_ = (y160 ++ l0) := ⟨_, rfl⟩
  have Ny163 := Aside0.mk hy163
  have e163 : y163 = l0 := by rw [hy163, hy160]; rfl
  clear hy160 hy163
  have qnil : ∀ (w : World) (a : Option Addr) (n c : Nat), (binOp .eql 25 (.slice a n c) (.slice none 0 0)).run Try.prog w = .ok (.bool a.isNone) w := fun w a n c => Lib.run_eql_slice_nil w 25 4 a n c 0 0 Try.underlying25
  go_enter Try.func71, Try.ntmps71
  go_wp2_with (first | ((with_reducible refine gate_dst (N := 5) rfl ?_); refine Kd.R_lit Kd.bool _ 4 ?hg (N := 5) ?hd (xs := ([] : List Bool)) (inner := []) (ok := fun _ => True) (okp := fun _ => True) ?hr ?hp (fun _ hk => by first | exact hk | grind) trivial (Below.refl _ _) (Nat.le_refl _) (by simp) ?_; (case hd => rfl); (case hg => rfl); (case hr => first | (go_simp; done) | (go_simp; rfl)); (case hp => exact (Reps.none _ _)); intro v161 w3 ho4 hb hg_ hnew_; clear hg_ hnew_; (first | rw [← Ny160.out] at ho4 | (simp only [Int.reduceToNat] at ho4; rw [← Ny160.out] at ho4)); have n0_ := Aside0.mk (Kd.R_lower ho4 (below_size bw)); have n1_ := Aside0.mk (below_step bw hb); clear HB; have HO162 := n0_; have HB := n1_; clear n0_ n1_; clear hb ho4) | ((with_reducible refine gate_builtin (b := .append) (xs := #[.tmp 5, .tmp 6]) rfl ?_); at_builtin; refine Kd.R_append_rows Kd.bool (w0 := w) w.heap.size rfl (.tmp 5) (.tmp 6) 25 4 (.bool false) 1 rfl Try.underlying25 info4 rfl (by decide) (by omega) v161 y160 l0 _ _ _ (fun _ => True) (fun _ => False) rfl rfl ?aO ?aR (fun _ _ h => h) (fun _ h => h.elim) ?aF ?aB ?aS ?aL ?_; (case aR => exact cb HR0); (case aB => exact bw); (case aF => exact (fun _ _ => trivial)); (case aO => exact (rk HO162)); (case aS => exact (below_size bw)); (case aL => have := LMc2.out; omega); intro v164 w5 ho hb hg hat; rw [← Ny163.out] at ho; have n0_ := Aside0.mk (hb); have n1_ := Aside0.mk (ho); clear HB HO162; have HB := n0_; have HO165 := n1_; clear n0_ n1_; clear ho hb hg hat))
  go_ret
  refine ⟨_, rfl, ?_, bw⟩
  rw [← e163]
  (with_reducible repeat (first | apply Kd.R_alloc | apply Kd.R_drewN | apply Kd.R_drew))
  exact HO165.out

/-! ### impl_Net_hasLine: function 72 -/
def impl_Net_hasLine.f (a0_0 : Int) (l0_1 : List (S139)) (a1 : Int) : Option (Bool) := if a1 ≥ 0 then (some (decide (a1 < (l0_1.length : Int)))) else (some false)
set_option maxHeartbeats 8000000 in
set_option maxRecDepth 100000 in
theorem impl_Net_hasLine.calls (a0_0 : Int) (A0_1 : Option Addr) (c0_1 : Nat) (l0_1 : List (S139)) (a1 : Int) (r : Bool) (w : World) (hr0_1 : Kd.C k139 w A0_1 l0_1.length l0_1) (hc0_1 : l0_1.length ≤ c0_1) (h : impl_Net_hasLine.f a0_0 l0_1 a1 = some r) :
  Calls Try.prog 72 #[.agg #[.int .i64 a0_0, .slice A0_1 l0_1.length c0_1], .int .i64 a1] w fun e w' => e = .returned (.bool r) ∧ Below w.heap.size w w' := by
 have hu35 := Try.underlying35
 have HR0_1 := Aside0.mk hr0_1
 have HC0_1 := Aside0.mk hc0_1
 clear hr0_1 hc0_1
 have HB := Aside0.mk (Below.refl w.heap.size w)
 have H : (if a1 ≥ 0 then (some (decide (a1 < (l0_1.length : Int)))) else (some false)) = some r := h
 clear h
 by_cases c3 : a1 ≥ 0
 ·rw [if_pos c3] at H
  have c3b0 : decide (0 ≤ a1) = true := decide_eq_true c3
  clear c3
  obtain rfl := Option.some.inj H
  go_enter Try.func72, Try.ntmps72
  go_wp2_with (first | ((with_reducible refine gate_dst (N := 2) rfl ?_); (try (refine gate_guard (by rfl) ?_; dsimp only)); refine box_event ?hg (N := 2) ?hd (cs := #[.int .i64 a0_0, .slice A0_1 l0_1.length c0_1]) (t := 35) ?hr ?_; (case hd => rfl); (case hg => rfl); (case hr => first | (go_simp; done) | (go_simp; rfl)); intro gb202 hg w4 hbox hb; have n0_ := Aside0.mk (below_step bw hb); have n1_ := Aside0.mk (hbox); have n2_ := Aside0.mk ((by rw [hg]; exact (below_size bw) : w.heap.size ≤ gb202)); have n3_ := Aside0.mk ((by rw [hg]; exact (below_size bw) : w.heap.size ≤ gb202)); clear HB; have HB := n0_; have BK202 := n1_; have GW202 := n2_; have GE202 := n3_; clear n0_ n1_ n2_ n3_; clear hb hbox hg; have hcz5_0 : w4.cell? ⟨gb202, 0, none⟩ = some (.int .i64 a0_0) := (blk_cell BK202.out 0).trans rfl; have hcz5_1 : w4.cell? ⟨gb202, 1, none⟩ = some (.slice A0_1 l0_1.length c0_1) := (blk_cell BK202.out 1).trans rfl; have hfz5_0 := blk_frozen BK202.out 0; have hfz5_1 := blk_frozen BK202.out 1))
  go_ret
  exact ⟨by first | rfl | (simp [errW_none, errW_some] <;> rfl) | (simp [*, errW_none, errW_some] <;> rfl), bw⟩
 ·rw [if_neg c3] at H
  have c3b0 : decide (0 ≤ a1) = false := decide_eq_false c3
  clear c3
  obtain rfl := Option.some.inj H
  go_enter Try.func72, Try.ntmps72
  go_wp2_with (first | ((with_reducible refine gate_dst (N := 2) rfl ?_); (try (refine gate_guard (by rfl) ?_; dsimp only)); refine box_event ?hg (N := 2) ?hd (cs := #[.int .i64 a0_0, .slice A0_1 l0_1.length c0_1]) (t := 35) ?hr ?_; (case hd => rfl); (case hg => rfl); (case hr => first | (go_simp; done) | (go_simp; rfl)); intro gb202 hg w6 hbox hb; have n0_ := Aside0.mk (below_step bw hb); have n1_ := Aside0.mk (hbox); have n2_ := Aside0.mk ((by rw [hg]; exact (below_size bw) : w.heap.size ≤ gb202)); have n3_ := Aside0.mk ((by rw [hg]; exact (below_size bw) : w.heap.size ≤ gb202)); clear HB; have HB := n0_; have BK202 := n1_; have GW202 := n2_; have GE202 := n3_; clear n0_ n1_ n2_ n3_; clear hb hbox hg))
  go_ret
  exact ⟨by first | rfl | (simp [errW_none, errW_some] <;> rfl) | (simp [*, errW_none, errW_some] <;> rfl), bw⟩

end Go.Proofs.Ytgoiihfojhpcmaa.R
