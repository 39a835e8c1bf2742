-- Printed by wip/gen.py of this session's repo, over the kit's print.py. Not trusted: Lean checks it.
import Derived.Test.YtoajkfhjgnonjaaDoorGx0
import Derived.Test.YtoajkfhjgnonjaaDoorSq
import Derived.Test.YtoajkfhjgnonjaaDoorGx7
namespace Go.Proofs.YtoajkfhjgnonjaaDoor.G
open Go.RowKit Go.Proofs.YtoajkfhjgnonjaaDoorW.PrintWords Go.Proofs.YtoajkfhjgnonjaaDoorW.PrintLast Go.Proofs.YtoajkfhjgnonjaaDoorW.PrintMore Go.Proofs.YtoajkfhjgnonjaaDoor.Sq
attribute [local go_sem] max2_int min2_int max_two min_two max_three min_three max_four min_four   -- for this text's walks alone
set_option linter.unusedVariables false
set_option linter.unusedSimpArgs false

/-! ### impl_BayRun: function 65 -/
def impl_BayRun.l0 : Nat → List Int → List Int → Int → Int → Bool → Bool → Bool → Bool → Option (Bool × Bool × Bool × Bool × Int)
 | 0, _, _, _, _, _, _, _, _ => none
 | k + 1, x1, x10, x11, x12, x401000, x401001, x401002, x401003 => if x12 < x11 then (if 0 ≤ x12 then (if x12 < (x10.length : Int) then ((impl_BayDo.f x401000 x401001 x401002 x401003 (rd x10 x12)).bind fun bt403 => (if bt403.2.2.2.2 = true then (impl_BayRun.l0 k x1 x10 x11 (wrap64 (x12 + 1)) bt403.1 bt403.2.1 bt403.2.2.1 bt403.2.2.2.1) else (some (x401000, x401001, x401002, x401003, x12)))) else (none)) else (none)) else (some (x401000, x401001, x401002, x401003, (x1.length : Int)))
def impl_BayRun.f (k : Nat) (a0_0 : Bool) (a0_1 : Bool) (a0_2 : Bool) (a0_3 : Bool) (l1 : List Int) : Option (Bool × Bool × Bool × Bool × Int) := impl_BayRun.l0 k l1 l1 (l1.length : Int) 0 a0_0 a0_1 a0_2 a0_3
theorem impl_BayRun.mono_l : ∀ k, (∀ y0 y1 y2 y3 y4 y5 y6 y7, LeO (impl_BayRun.l0 k y0 y1 y2 y3 y4 y5 y6 y7) (impl_BayRun.l0 (k + 1) y0 y1 y2 y3 y4 y5 y6 y7))
 | 0 => fun _ _ _ _ _ _ _ _ r h => by simp [impl_BayRun.l0] at h
 | k + 1 => by
  have ih0 := impl_BayRun.mono_l k
  ·intro y0 y1 y2 y3 y4 y5 y6 y7
   unfold impl_BayRun.l0
   repeat' first
   | (with_reducible exact ih0 _ _ _ _ _ _ _ _)
   | (with_reducible exact LeO.refl _)
   | (with_reducible exact LeO.none _)
   | (with_reducible refine LeO.ite ?_ ?_)
   | (with_reducible refine LeO.bind ?_ (fun _ => ?_))
   | exact ih0 _ _ _ _ _ _ _ _
   | exact LeO.none _
   | refine LeO.ite ?_ ?_
   | refine LeO.bind ?_ (fun _ => ?_)
theorem impl_BayRun.mono : ∀ a0 a1 a2 a3 a4 k, LeO (impl_BayRun.f k a0 a1 a2 a3 a4) (impl_BayRun.f (k + 1) a0 a1 a2 a3 a4) := by
 intro a0 a1 a2 a3 a4 k
 have ih0 := impl_BayRun.mono_l k
 unfold impl_BayRun.f
 repeat' first
   | (with_reducible exact ih0 _ _ _ _ _ _ _ _)
   | (with_reducible exact LeO.refl _)
   | (with_reducible exact LeO.none _)
   | (with_reducible refine LeO.ite ?_ ?_)
   | (with_reducible refine LeO.bind ?_ (fun _ => ?_))
   | exact ih0 _ _ _ _ _ _ _ _
   | exact LeO.none _
   | refine LeO.ite ?_ ?_
   | refine LeO.bind ?_ (fun _ => ?_)
set_option maxHeartbeats 8000000 in
set_option maxRecDepth 100000 in
theorem impl_BayRun.calls (k : Nat) (a0_0 : Bool) (a0_1 : Bool) (a0_2 : Bool) (a0_3 : Bool) (A1 : Option Addr) (c1 : Nat) (l1 : List Int) (r1 : Bool) (r2 : Bool) (r3 : Bool) (r4 : Bool) (r5 : Int) (w : World) (hr1 : Kd.C (Kd.int .i64) w A1 l1.length l1) (hc1 : l1.length ≤ c1) (h : impl_BayRun.f k a0_0 a0_1 a0_2 a0_3 l1 = some (r1, r2, r3, r4, r5)) :
  Calls Tryd.prog 65 #[.agg #[.bool a0_0, .bool a0_1, .bool a0_2, .bool a0_3], .slice A1 l1.length c1] w fun e w' => e = .returned (.tuple #[.agg #[.bool r1, .bool r2, .bool r3, .bool r4], .int .i64 r5]) ∧ Below w.heap.size w w' := by
 have hu59 := Tryd.underlying59
 have HR1 := Aside0.mk hr1
 have HC1 := Aside0.mk hc1
 clear hr1 hc1
 have HB := Aside0.mk (Below.refl w.heap.size w)
 have H : (impl_BayRun.l0 k l1 l1 (l1.length : Int) 0 a0_0 a0_1 a0_2 a0_3) = some (r1, r2, r3, r4, r5) := h
 clear h
 have H' := Aside0.mk H
 clear H
 go_enter Tryd.func65, Tryd.ntmps65
 go_wp2_with (first | ((with_reducible refine gate_dst (N := 2) rfl ?_); refine box_event ?hg (N := 2) ?hd (cs := #[.bool a0_0, .bool a0_1, .bool a0_2, .bool a0_3]) (t := 59) ?hr ?_; (case hd => rfl); (case hg => rfl); (case hr => first | (go_simp; done) | (go_simp; rfl)); intro gb400 hg w3 hbox hb; have n0_ := Aside0.mk (below_step bw hb); have n1_ := Aside0.mk (hbox); have n2_ := Aside0.mk ((by rw [hg]; exact (below_size bw) : w.heap.size ≤ gb400)); have n3_ := Aside0.mk ((by rw [hg]; exact (below_size bw) : w.heap.size ≤ gb400)); clear HB; have HB := n0_; have BK400 := n1_; have GW400 := n2_; have GE400 := n3_; clear n0_ n1_ n2_ n3_; clear hb hbox hg) | ((with_reducible refine gate_dst (N := 4) rfl ?_); refine box_event ?hg (N := 4) ?hd (cs := #[.bool false, .bool false, .bool false, .bool false]) (t := 59) ?hr ?_; (case hd => rfl); (case hg => rfl); (case hr => first | (go_simp; done) | (go_simp; rfl)); intro gb401 hg w4 hbox hb; have n0_ := bkB BK400 hb; have n1_ := Aside0.mk (below_step bw hb); have n2_ := Aside0.mk (hbox); have n3_ := Aside0.mk ((by rw [hg]; exact (below_size bw) : w.heap.size ≤ gb401)); have n4_ := Aside0.mk ((by rw [hg]; exact (below_size bw) : w.heap.size ≤ gb401)); have n5_ := Aside0.mk ((by rw [hg]; exact Nat.ne_of_lt (blk_lt (g := gb400) (o := .cells #[.bool a0_0, .bool a0_1, .bool a0_2, .bool a0_3] 59 (0, 0)) (bk BK400)) : gb400 ≠ gb401)); have n6_ := Aside0.mk ((by rw [hg]; exact Nat.ne_of_gt (blk_lt (g := gb400) (o := .cells #[.bool a0_0, .bool a0_1, .bool a0_2, .bool a0_3] 59 (0, 0)) (bk BK400)) : gb401 ≠ gb400)); clear BK400 HB; have BK400 := n0_; have HB := n1_; have BK401 := n2_; have GW401 := n3_; have GE401 := n4_; have NB400_401 := n5_; have NB401_400 := n6_; clear n0_ n1_ n2_ n3_ n4_ n5_ n6_; clear hb hbox hg))
 go_loopg [12] k (fun kq v12 w' => ∃ (x12_1 : Int) (x401000_1 : Bool) (x401001_1 : Bool) (x401002_1 : Bool) (x401003_1 : Bool) (x402000_1 : Bool) (x402001_1 : Bool) (x402002_1 : Bool) (x402003_1 : Bool), v12 = .int .i64 x12_1 ∧ Aside0 (impl_BayRun.l0 kq l1 l1 (l1.length : Int) x12_1 x401000_1 x401001_1 x401002_1 x401003_1 = some (r1, r2, r3, r4, r5)) ∧ Aside0 (kq ≤ k) ∧ Aside0 (w'.heap[gb400]? = some (.cells #[.bool x401000_1, .bool x401001_1, .bool x401002_1, .bool x401003_1] 59 (0, 0))) ∧ Aside0 (w'.heap[gb401]? = some (.cells #[.bool x402000_1, .bool x402001_1, .bool x402002_1, .bool x402003_1] 59 (0, 0))) ∧ Aside0 (Below w.heap.size w w'))
 case atStart => exact ⟨(0), (a0_0), (a0_1), (a0_2), (a0_3), (false), (false), (false), (false), (by first | rfl | (simp; done) | (simp [*]; done)), H', ⟨Nat.le_refl _⟩, ⟨bk BK400⟩, ⟨bk BK401⟩, ⟨bw⟩⟩
 case round =>
  clear H'
  try clear c1
  try clear p2
  obtain ⟨x12_1, x401000_1, x401001_1, x401002_1, x401003_1, x402000_1, x402001_1, x402002_1, x402003_1, rfl, HA, HK1, BK400, BK401, HB⟩ := hrel
  cases gk with
  | zero => exact absurd HA.out (by simp [impl_BayRun.l0])
  | succ k1 =>
   have H := HA.out
   clear HA
   simp only [impl_BayRun.l0] at H
   by_cases c5 : x12_1 < (l1.length : Int)
   ·rw [if_pos c5] at H
    have c5b0 : decide (x12_1 < (l1.length : Int)) = true := decide_eq_true c5
    clear c5
    by_cases c6 : 0 ≤ x12_1
    ·rw [if_pos c6] at H
     have c6b0 : decide (0 ≤ x12_1) = true := decide_eq_true c6
     clear c6
     by_cases c7 : x12_1 < (l1.length : Int)
     ·rw [if_pos c7] at H
      have c7b0 : decide (x12_1 < (l1.length : Int)) = true := decide_eq_true c7
      clear c7
      replace H := Option.bind_eq_some_iff.mp H
      obtain ⟨⟨t403, t404, t405, t406, t407⟩, A80, H⟩ := H
      replace H : (if t407 = true then (impl_BayRun.l0 k1 l1 l1 (l1.length : Int) (wrap64 (x12_1 + 1)) t403 t404 t405 t406) else (some (x401000_1, x401001_1, x401002_1, x401003_1, x12_1))) = some (r1, r2, r3, r4, r5) := H
      have A8 := Aside0.mk A80
      clear A80
      by_cases c9 : t407 = true
      ·subst c9
       have H1 : (impl_BayRun.l0 k1 l1 l1 (l1.length : Int) (wrap64 (x12_1 + 1)) t403 t404 t405 t406) = some (r1, r2, r3, r4, r5) := by rw [if_pos rfl] at H; exact H
       clear H
       have H := H1
       clear H1
       have H' := Aside0.mk H
       clear H
       have p402 : 0 ≤ (x12_1 : Int) := of_decide_eq_true (by first | (with_reducible assumption) | assumption)
       have q402 : x12_1 < (l1.length : Int) := of_decide_eq_true (by first | (with_reducible assumption) | assumption)
       obtain ⟨ad402, e402, hx402_0⟩ := Kd.at_int HR1.out x12_1 p402 q402
       cases e402
       replace hx402_0 := (HB.out.cell (World.block_lt_of_cell? w _ hx402_0)).trans hx402_0
       replace p402 := eq_true p402
       replace q402 := eq_true q402
       have hnb10 := NB400_401.out
       have hnc10 := NB401_400.out
       have hcz11_0 : wr.cell? ⟨gb400, 0, none⟩ = some (.bool x401000_1) := (blk_cell BK400.out 0).trans rfl
       have hcz11_1 : wr.cell? ⟨gb400, 1, none⟩ = some (.bool x401001_1) := (blk_cell BK400.out 1).trans rfl
       have hcz11_2 : wr.cell? ⟨gb400, 2, none⟩ = some (.bool x401002_1) := (blk_cell BK400.out 2).trans rfl
       have hcz11_3 : wr.cell? ⟨gb400, 3, none⟩ = some (.bool x401003_1) := (blk_cell BK400.out 3).trans rfl
       have hfz11_0 := blk_frozen BK400.out 0
       have hfz11_1 := blk_frozen BK400.out 1
       have hfz11_2 := blk_frozen BK400.out 2
       have hfz11_3 := blk_frozen BK400.out 3
       go_wp2_with (first | ((with_reducible refine gate_callee (f := 57) rfl ?_); refine goesL_ (some 20) rfl rfl Tryd.func57 (by kernel_rfl) rfl #[.agg #[.bool x401000_1, .bool x401001_1, .bool x401002_1, .bool x401003_1], .int .i64 (rd l1 x12_1)] rfl (by (try simp only [List.map_toArray, List.map_cons, List.map_nil]); first | done | rfl | (simp only [List.length_drop, List.length_take]; rfl)) ?_; (with_reducible refine (impl_BayDo.calls x401000_1 x401001_1 x401002_1 x401003_1 (rd l1 x12_1) t403 t404 t405 t406 true _ A8.out).mono ?_); rintro e w12 ⟨rfl, hb⟩; refine ⟨_, rfl, ?_⟩; have n0_ := bkB BK400 hb; have n1_ := bkB BK401 hb; have n2_ := Aside0.mk (below_step bw hb); clear BK400 BK401 HB; have BK400 := n0_; have BK401 := n1_; have HB := n2_; clear n0_ n1_ n2_; (try clear hb); (try clear hb2); (try clear hk); (try clear hi)) | ((with_reducible refine gate_dst (N := 8) rfl ?_); refine box_event ?hg (N := 8) ?hd (cs := #[.bool false, .bool false, .bool false, .bool false]) (t := 59) ?hr ?_; (case hd => rfl); (case hg => rfl); (case hr => first | (go_simp; done) | (go_simp; rfl)); intro gb408 hg w13 hbox hb; have n0_ := bkB BK400 hb; have n1_ := bkB BK401 hb; have n2_ := Aside0.mk (below_step bw hb); have n3_ := Aside0.mk (hbox); have n4_ := Aside0.mk ((by rw [hg]; exact (below_size bw) : w.heap.size ≤ gb408)); have n5_ := Aside0.mk ((by rw [hg]; exact (below_size bw) : w.heap.size ≤ gb408)); have n6_ := Aside0.mk ((by rw [hg]; exact Nat.ne_of_lt (blk_lt (g := gb400) (o := .cells #[.bool x401000_1, .bool x401001_1, .bool x401002_1, .bool x401003_1] 59 (0, 0)) (bk BK400)) : gb400 ≠ gb408)); have n7_ := Aside0.mk ((by rw [hg]; exact Nat.ne_of_gt (blk_lt (g := gb400) (o := .cells #[.bool x401000_1, .bool x401001_1, .bool x401002_1, .bool x401003_1] 59 (0, 0)) (bk BK400)) : gb408 ≠ gb400)); have n8_ := Aside0.mk ((by rw [hg]; exact Nat.ne_of_lt (blk_lt (g := gb401) (o := .cells #[.bool x402000_1, .bool x402001_1, .bool x402002_1, .bool x402003_1] 59 (0, 0)) (bk BK401)) : gb401 ≠ gb408)); have n9_ := Aside0.mk ((by rw [hg]; exact Nat.ne_of_gt (blk_lt (g := gb401) (o := .cells #[.bool x402000_1, .bool x402001_1, .bool x402002_1, .bool x402003_1] 59 (0, 0)) (bk BK401)) : gb408 ≠ gb401)); clear BK400 BK401 HB; have BK400 := n0_; have BK401 := n1_; have HB := n2_; have BK408 := n3_; have GW408 := n4_; have GE408 := n5_; have NB400_408 := n6_; have NB408_400 := n7_; have NB401_408 := n8_; have NB408_401 := n9_; clear n0_ n1_ n2_ n3_ n4_ n5_ n6_ n7_ n8_ n9_; clear hb hbox hg; have hnb14 := NB408_400.out; have hnc14 := NB400_408.out; have hnb15 := NB408_401.out; have hnc15 := NB401_408.out; have hcz16_0 : w13.cell? ⟨gb408, 0, none⟩ = some (.bool false) := (blk_cell BK408.out 0).trans rfl; have hcz16_1 : w13.cell? ⟨gb408, 1, none⟩ = some (.bool false) := (blk_cell BK408.out 1).trans rfl; have hcz16_2 : w13.cell? ⟨gb408, 2, none⟩ = some (.bool false) := (blk_cell BK408.out 2).trans rfl; have hcz16_3 : w13.cell? ⟨gb408, 3, none⟩ = some (.bool false) := (blk_cell BK408.out 3).trans rfl; have hfz16_0 := blk_frozen BK408.out 0; have hfz16_1 := blk_frozen BK408.out 1; have hfz16_2 := blk_frozen BK408.out 2; have hfz16_3 := blk_frozen BK408.out 3; have hcz17_0 : w13.cell? ⟨gb400, 0, none⟩ = some (.bool x401000_1) := (blk_cell BK400.out 0).trans rfl; have hcz17_1 : w13.cell? ⟨gb400, 1, none⟩ = some (.bool x401001_1) := (blk_cell BK400.out 1).trans rfl; have hcz17_2 : w13.cell? ⟨gb400, 2, none⟩ = some (.bool x401002_1) := (blk_cell BK400.out 2).trans rfl; have hcz17_3 : w13.cell? ⟨gb400, 3, none⟩ = some (.bool x401003_1) := (blk_cell BK400.out 3).trans rfl; have hfz17_0 := blk_frozen BK400.out 0; have hfz17_1 := blk_frozen BK400.out 1; have hfz17_2 := blk_frozen BK400.out 2; have hfz17_3 := blk_frozen BK400.out 3))
       go_roundg k1
       case measure => have := HK1.out; omega
       case rel => exact ⟨(wrap64 (x12_1 + 1)), (t403), (t404), (t405), (t406), (x402000_1), (x402001_1), (x402002_1), (x402003_1), (by first | rfl | (simp; done) | (simp [*]; done)), H', ⟨by have := HK1.out; omega⟩, ⟨by (with_reducible repeat (first | refine blk_drewN ?_ _ | refine blk_drew ?_ | refine blk_alloc ?_ _)); refine blk_put (cs := #[.bool t403, .bool t404, .bool t405, .bool x401003_1]) ?_ 3 _ rfl; (with_reducible repeat (first | refine blk_drewN ?_ _ | refine blk_drew ?_ | refine blk_alloc ?_ _)); refine blk_put (cs := #[.bool t403, .bool t404, .bool x401002_1, .bool x401003_1]) ?_ 2 _ rfl; (with_reducible repeat (first | refine blk_drewN ?_ _ | refine blk_drew ?_ | refine blk_alloc ?_ _)); refine blk_put (cs := #[.bool t403, .bool x401001_1, .bool x401002_1, .bool x401003_1]) ?_ 1 _ rfl; (with_reducible repeat (first | refine blk_drewN ?_ _ | refine blk_drew ?_ | refine blk_alloc ?_ _)); refine blk_put (cs := #[.bool x401000_1, .bool x401001_1, .bool x401002_1, .bool x401003_1]) ?_ 0 _ rfl; (with_reducible repeat (first | refine blk_drewN ?_ _ | refine blk_drew ?_ | refine blk_alloc ?_ _)); refine blk_far ?_ NB400_408.out _; (with_reducible repeat (first | refine blk_drewN ?_ _ | refine blk_drew ?_ | refine blk_alloc ?_ _)); refine blk_far ?_ NB400_408.out _; (with_reducible repeat (first | refine blk_drewN ?_ _ | refine blk_drew ?_ | refine blk_alloc ?_ _)); refine blk_far ?_ NB400_408.out _; (with_reducible repeat (first | refine blk_drewN ?_ _ | refine blk_drew ?_ | refine blk_alloc ?_ _)); refine blk_far ?_ NB400_408.out _; (with_reducible repeat (first | refine blk_drewN ?_ _ | refine blk_drew ?_ | refine blk_alloc ?_ _)); exact BK400.out⟩, ⟨by (with_reducible repeat (first | refine blk_drewN ?_ _ | refine blk_drew ?_ | refine blk_alloc ?_ _)); refine blk_far ?_ NB401_400.out _; (with_reducible repeat (first | refine blk_drewN ?_ _ | refine blk_drew ?_ | refine blk_alloc ?_ _)); refine blk_far ?_ NB401_400.out _; (with_reducible repeat (first | refine blk_drewN ?_ _ | refine blk_drew ?_ | refine blk_alloc ?_ _)); refine blk_far ?_ NB401_400.out _; (with_reducible repeat (first | refine blk_drewN ?_ _ | refine blk_drew ?_ | refine blk_alloc ?_ _)); refine blk_far ?_ NB401_400.out _; (with_reducible repeat (first | refine blk_drewN ?_ _ | refine blk_drew ?_ | refine blk_alloc ?_ _)); refine blk_far ?_ NB401_408.out _; (with_reducible repeat (first | refine blk_drewN ?_ _ | refine blk_drew ?_ | refine blk_alloc ?_ _)); refine blk_far ?_ NB401_408.out _; (with_reducible repeat (first | refine blk_drewN ?_ _ | refine blk_drew ?_ | refine blk_alloc ?_ _)); refine blk_far ?_ NB401_408.out _; (with_reducible repeat (first | refine blk_drewN ?_ _ | refine blk_drew ?_ | refine blk_alloc ?_ _)); refine blk_far ?_ NB401_408.out _; (with_reducible repeat (first | refine blk_drewN ?_ _ | refine blk_drew ?_ | refine blk_alloc ?_ _)); exact BK401.out⟩, ⟨bw⟩⟩
      ·replace c9 := Bool.eq_false_iff.mpr c9
       subst c9
       have H1 : (some (x401000_1, x401001_1, x401002_1, x401003_1, x12_1)) = some (r1, r2, r3, r4, r5) := by rw [if_neg (show ¬ (false = true) by decide)] at H; exact H
       clear H
       have H := H1
       clear H1
       simp only [Option.some.injEq, Prod.mk.injEq] at H
       obtain ⟨rfl, rfl, rfl, rfl, rfl⟩ := H
       have p402 : 0 ≤ (x12_1 : Int) := of_decide_eq_true (by first | (with_reducible assumption) | assumption)
       have q402 : x12_1 < (l1.length : Int) := of_decide_eq_true (by first | (with_reducible assumption) | assumption)
       obtain ⟨ad402, e402, hx402_0⟩ := Kd.at_int HR1.out x12_1 p402 q402
       cases e402
       replace hx402_0 := (HB.out.cell (World.block_lt_of_cell? w _ hx402_0)).trans hx402_0
       replace p402 := eq_true p402
       replace q402 := eq_true q402
       have hnb18 := NB400_401.out
       have hnc18 := NB401_400.out
       have hcz19_0 : wr.cell? ⟨gb400, 0, none⟩ = some (.bool x401000_1) := (blk_cell BK400.out 0).trans rfl
       have hcz19_1 : wr.cell? ⟨gb400, 1, none⟩ = some (.bool x401001_1) := (blk_cell BK400.out 1).trans rfl
       have hcz19_2 : wr.cell? ⟨gb400, 2, none⟩ = some (.bool x401002_1) := (blk_cell BK400.out 2).trans rfl
       have hcz19_3 : wr.cell? ⟨gb400, 3, none⟩ = some (.bool x401003_1) := (blk_cell BK400.out 3).trans rfl
       have hfz19_0 := blk_frozen BK400.out 0
       have hfz19_1 := blk_frozen BK400.out 1
       have hfz19_2 := blk_frozen BK400.out 2
       have hfz19_3 := blk_frozen BK400.out 3
       go_wp2_with (first | ((with_reducible refine gate_callee (f := 57) rfl ?_); refine goesL_ (some 20) rfl rfl Tryd.func57 (by kernel_rfl) rfl #[.agg #[.bool x401000_1, .bool x401001_1, .bool x401002_1, .bool x401003_1], .int .i64 (rd l1 x12_1)] rfl (by (try simp only [List.map_toArray, List.map_cons, List.map_nil]); first | done | rfl | (simp only [List.length_drop, List.length_take]; rfl)) ?_; (with_reducible refine (impl_BayDo.calls x401000_1 x401001_1 x401002_1 x401003_1 (rd l1 x12_1) t403 t404 t405 t406 false _ A8.out).mono ?_); rintro e w20 ⟨rfl, hb⟩; refine ⟨_, rfl, ?_⟩; have n0_ := bkB BK400 hb; have n1_ := bkB BK401 hb; have n2_ := Aside0.mk (below_step bw hb); clear BK400 BK401 HB; have BK400 := n0_; have BK401 := n1_; have HB := n2_; clear n0_ n1_ n2_; (try clear hb); (try clear hb2); (try clear hk); (try clear hi)) | ((with_reducible refine gate_dst (N := 8) rfl ?_); refine box_event ?hg (N := 8) ?hd (cs := #[.bool false, .bool false, .bool false, .bool false]) (t := 59) ?hr ?_; (case hd => rfl); (case hg => rfl); (case hr => first | (go_simp; done) | (go_simp; rfl)); intro gb408 hg w21 hbox hb; have n0_ := bkB BK400 hb; have n1_ := bkB BK401 hb; have n2_ := Aside0.mk (below_step bw hb); have n3_ := Aside0.mk (hbox); have n4_ := Aside0.mk ((by rw [hg]; exact (below_size bw) : w.heap.size ≤ gb408)); have n5_ := Aside0.mk ((by rw [hg]; exact (below_size bw) : w.heap.size ≤ gb408)); have n6_ := Aside0.mk ((by rw [hg]; exact Nat.ne_of_lt (blk_lt (g := gb400) (o := .cells #[.bool x401000_1, .bool x401001_1, .bool x401002_1, .bool x401003_1] 59 (0, 0)) (bk BK400)) : gb400 ≠ gb408)); have n7_ := Aside0.mk ((by rw [hg]; exact Nat.ne_of_gt (blk_lt (g := gb400) (o := .cells #[.bool x401000_1, .bool x401001_1, .bool x401002_1, .bool x401003_1] 59 (0, 0)) (bk BK400)) : gb408 ≠ gb400)); have n8_ := Aside0.mk ((by rw [hg]; exact Nat.ne_of_lt (blk_lt (g := gb401) (o := .cells #[.bool x402000_1, .bool x402001_1, .bool x402002_1, .bool x402003_1] 59 (0, 0)) (bk BK401)) : gb401 ≠ gb408)); have n9_ := Aside0.mk ((by rw [hg]; exact Nat.ne_of_gt (blk_lt (g := gb401) (o := .cells #[.bool x402000_1, .bool x402001_1, .bool x402002_1, .bool x402003_1] 59 (0, 0)) (bk BK401)) : gb408 ≠ gb401)); clear BK400 BK401 HB; have BK400 := n0_; have BK401 := n1_; have HB := n2_; have BK408 := n3_; have GW408 := n4_; have GE408 := n5_; have NB400_408 := n6_; have NB408_400 := n7_; have NB401_408 := n8_; have NB408_401 := n9_; clear n0_ n1_ n2_ n3_ n4_ n5_ n6_ n7_ n8_ n9_; clear hb hbox hg; have hnb22 := NB408_400.out; have hnc22 := NB400_408.out; have hnb23 := NB408_401.out; have hnc23 := NB401_408.out; have hcz24_0 : w21.cell? ⟨gb408, 0, none⟩ = some (.bool false) := (blk_cell BK408.out 0).trans rfl; have hcz24_1 : w21.cell? ⟨gb408, 1, none⟩ = some (.bool false) := (blk_cell BK408.out 1).trans rfl; have hcz24_2 : w21.cell? ⟨gb408, 2, none⟩ = some (.bool false) := (blk_cell BK408.out 2).trans rfl; have hcz24_3 : w21.cell? ⟨gb408, 3, none⟩ = some (.bool false) := (blk_cell BK408.out 3).trans rfl; have hfz24_0 := blk_frozen BK408.out 0; have hfz24_1 := blk_frozen BK408.out 1; have hfz24_2 := blk_frozen BK408.out 2; have hfz24_3 := blk_frozen BK408.out 3; have hcz25_0 : w21.cell? ⟨gb400, 0, none⟩ = some (.bool x401000_1) := (blk_cell BK400.out 0).trans rfl; have hcz25_1 : w21.cell? ⟨gb400, 1, none⟩ = some (.bool x401001_1) := (blk_cell BK400.out 1).trans rfl; have hcz25_2 : w21.cell? ⟨gb400, 2, none⟩ = some (.bool x401002_1) := (blk_cell BK400.out 2).trans rfl; have hcz25_3 : w21.cell? ⟨gb400, 3, none⟩ = some (.bool x401003_1) := (blk_cell BK400.out 3).trans rfl; have hfz25_0 := blk_frozen BK400.out 0; have hfz25_1 := blk_frozen BK400.out 1; have hfz25_2 := blk_frozen BK400.out 2; have hfz25_3 := blk_frozen BK400.out 3; have hcz26_0 : w21.cell? ⟨gb401, 0, none⟩ = some (.bool x402000_1) := (blk_cell BK401.out 0).trans rfl; have hcz26_1 : w21.cell? ⟨gb401, 1, none⟩ = some (.bool x402001_1) := (blk_cell BK401.out 1).trans rfl; have hcz26_2 : w21.cell? ⟨gb401, 2, none⟩ = some (.bool x402002_1) := (blk_cell BK401.out 2).trans rfl; have hcz26_3 : w21.cell? ⟨gb401, 3, none⟩ = some (.bool x402003_1) := (blk_cell BK401.out 3).trans rfl; have hfz26_0 := blk_frozen BK401.out 0; have hfz26_1 := blk_frozen BK401.out 1; have hfz26_2 := blk_frozen BK401.out 2; have hfz26_3 := blk_frozen BK401.out 3))
       refine bodyPost_ret (results_ct rfl _ _ gb401 59 #[.bool x401000_1, .bool x401001_1, .bool x401002_1, .bool x401003_1] (0, 0) _ rfl (by (with_reducible repeat (first | refine blk_drewN ?_ _ | refine blk_drew ?_ | refine blk_alloc ?_ _)); refine blk_put (cs := #[.bool x401000_1, .bool x401001_1, .bool x401002_1, .bool x402003_1]) ?_ 3 _ rfl; (with_reducible repeat (first | refine blk_drewN ?_ _ | refine blk_drew ?_ | refine blk_alloc ?_ _)); refine blk_put (cs := #[.bool x401000_1, .bool x401001_1, .bool x402002_1, .bool x402003_1]) ?_ 2 _ rfl; (with_reducible repeat (first | refine blk_drewN ?_ _ | refine blk_drew ?_ | refine blk_alloc ?_ _)); refine blk_put (cs := #[.bool x401000_1, .bool x402001_1, .bool x402002_1, .bool x402003_1]) ?_ 1 _ rfl; (with_reducible repeat (first | refine blk_drewN ?_ _ | refine blk_drew ?_ | refine blk_alloc ?_ _)); refine blk_put (cs := #[.bool x402000_1, .bool x402001_1, .bool x402002_1, .bool x402003_1]) ?_ 0 _ rfl; (with_reducible repeat (first | refine blk_drewN ?_ _ | refine blk_drew ?_ | refine blk_alloc ?_ _)); refine blk_far ?_ NB401_408.out _; (with_reducible repeat (first | refine blk_drewN ?_ _ | refine blk_drew ?_ | refine blk_alloc ?_ _)); refine blk_far ?_ NB401_408.out _; (with_reducible repeat (first | refine blk_drewN ?_ _ | refine blk_drew ?_ | refine blk_alloc ?_ _)); refine blk_far ?_ NB401_408.out _; (with_reducible repeat (first | refine blk_drewN ?_ _ | refine blk_drew ?_ | refine blk_alloc ?_ _)); refine blk_far ?_ NB401_408.out _; (with_reducible repeat (first | refine blk_drewN ?_ _ | refine blk_drew ?_ | refine blk_alloc ?_ _)); exact BK401.out) Tryd.underlying59 rfl (by kernel_rfl)) rfl ?_
       exact ⟨by first | rfl | (simp [errW_none, errW_some] <;> rfl) | (simp [*, errW_none, errW_some] <;> rfl), bw⟩
     ·rw [if_neg c7] at H
      exact absurd H (by simp)
    ·rw [if_neg c6] at H
     exact absurd H (by simp)
   ·rw [if_neg c5] at H
    have c5b0 : decide (x12_1 < (l1.length : Int)) = false := decide_eq_false c5
    clear c5
    simp only [Option.some.injEq, Prod.mk.injEq] at H
    obtain ⟨rfl, rfl, rfl, rfl, rfl⟩ := H
    have hnb27 := NB400_401.out
    have hnc27 := NB401_400.out
    have hcz28_0 : wr.cell? ⟨gb400, 0, none⟩ = some (.bool x401000_1) := (blk_cell BK400.out 0).trans rfl
    have hcz28_1 : wr.cell? ⟨gb400, 1, none⟩ = some (.bool x401001_1) := (blk_cell BK400.out 1).trans rfl
    have hcz28_2 : wr.cell? ⟨gb400, 2, none⟩ = some (.bool x401002_1) := (blk_cell BK400.out 2).trans rfl
    have hcz28_3 : wr.cell? ⟨gb400, 3, none⟩ = some (.bool x401003_1) := (blk_cell BK400.out 3).trans rfl
    have hfz28_0 := blk_frozen BK400.out 0
    have hfz28_1 := blk_frozen BK400.out 1
    have hfz28_2 := blk_frozen BK400.out 2
    have hfz28_3 := blk_frozen BK400.out 3
    have hcz29_0 : wr.cell? ⟨gb401, 0, none⟩ = some (.bool x402000_1) := (blk_cell BK401.out 0).trans rfl
    have hcz29_1 : wr.cell? ⟨gb401, 1, none⟩ = some (.bool x402001_1) := (blk_cell BK401.out 1).trans rfl
    have hcz29_2 : wr.cell? ⟨gb401, 2, none⟩ = some (.bool x402002_1) := (blk_cell BK401.out 2).trans rfl
    have hcz29_3 : wr.cell? ⟨gb401, 3, none⟩ = some (.bool x402003_1) := (blk_cell BK401.out 3).trans rfl
    have hfz29_0 := blk_frozen BK401.out 0
    have hfz29_1 := blk_frozen BK401.out 1
    have hfz29_2 := blk_frozen BK401.out 2
    have hfz29_3 := blk_frozen BK401.out 3
    go_wp2
    refine bodyPost_ret (results_ct rfl _ _ gb401 59 #[.bool x401000_1, .bool x401001_1, .bool x401002_1, .bool x401003_1] (0, 0) _ rfl (by (with_reducible repeat (first | refine blk_drewN ?_ _ | refine blk_drew ?_ | refine blk_alloc ?_ _)); refine blk_put (cs := #[.bool x401000_1, .bool x401001_1, .bool x401002_1, .bool x402003_1]) ?_ 3 _ rfl; (with_reducible repeat (first | refine blk_drewN ?_ _ | refine blk_drew ?_ | refine blk_alloc ?_ _)); refine blk_put (cs := #[.bool x401000_1, .bool x401001_1, .bool x402002_1, .bool x402003_1]) ?_ 2 _ rfl; (with_reducible repeat (first | refine blk_drewN ?_ _ | refine blk_drew ?_ | refine blk_alloc ?_ _)); refine blk_put (cs := #[.bool x401000_1, .bool x402001_1, .bool x402002_1, .bool x402003_1]) ?_ 1 _ rfl; (with_reducible repeat (first | refine blk_drewN ?_ _ | refine blk_drew ?_ | refine blk_alloc ?_ _)); refine blk_put (cs := #[.bool x402000_1, .bool x402001_1, .bool x402002_1, .bool x402003_1]) ?_ 0 _ rfl; (with_reducible repeat (first | refine blk_drewN ?_ _ | refine blk_drew ?_ | refine blk_alloc ?_ _)); exact BK401.out) Tryd.underlying59 rfl (by kernel_rfl)) rfl ?_
    exact ⟨by first | rfl | (simp [errW_none, errW_some] <;> rfl) | (simp [*, errW_none, errW_some] <;> rfl), bw⟩

end Go.Proofs.YtoajkfhjgnonjaaDoor.G
