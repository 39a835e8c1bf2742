-- Printed by wip/gen.py of this session's repo, over the kit's print.py. Not trusted: Lean checks it.
import Derived.Test.YtfdmoiaeclkdcaaGbx0
namespace Go.Proofs.Ytfdmoiaeclkdcaa.Gb
open Go.RowKit Go.Proofs.YtfdmoiaeclkdcaaW.PrintWords Go.Proofs.YtfdmoiaeclkdcaaW.PrintLast Go.Proofs.YtfdmoiaeclkdcaaW.PrintMore
attribute [local go_sem] max2_int min2_int max_two min_two max_three min_three max_four min_four   -- for this text's walks alone
set_option linter.unusedVariables false
set_option linter.unusedSimpArgs false

/-! ### laws_toBay: function 16 -/
def laws_toBay.f (a0_0 : Bool) (a0_1 : Bool) (a0_2 : Bool) (a0_3 : Bool) : Option (Bool × Bool × Bool × Bool) := some (a0_0, a0_1, a0_2, a0_3)
set_option maxHeartbeats 8000000 in
set_option maxRecDepth 100000 in
theorem laws_toBay.calls (a0_0 : Bool) (a0_1 : Bool) (a0_2 : Bool) (a0_3 : Bool) (r1 : Bool) (r2 : Bool) (r3 : Bool) (r4 : Bool) (w : World) (h : laws_toBay.f a0_0 a0_1 a0_2 a0_3 = some (r1, r2, r3, r4)) :
    Calls Try.prog 16 #[.agg #[.bool a0_0, .bool a0_1, .bool a0_2, .bool a0_3]] w fun e w' => e = .returned (.agg #[.bool r1, .bool r2, .bool r3, .bool r4]) ∧ Below w.heap.size w w' := by
  have hu23 := Try.underlying23
  have hu25 := Try.underlying25
  have HB := Aside0.mk (Below.refl w.heap.size w)
  have H : (some (a0_0, a0_1, a0_2, a0_3)) = some (r1, r2, r3, r4) := h
  clear h
  simp only [Option.some.injEq, Prod.mk.injEq] at H
  obtain ⟨rfl, rfl, rfl, rfl⟩ := H
  go_enter Try.func16, Try.ntmps16
  go_wp2_with (first | ((with_reducible refine gate_dst (N := 1) rfl ?_); refine box_event ?hg (N := 1) ?hd (cs := #[.bool a0_0, .bool a0_1, .bool a0_2, .bool a0_3]) (t := 23) ?hr ?_; (case hd => rfl); (case hg => rfl); (case hr => first | (go_simp; done) | (go_simp; rfl)); intro gb101 hg w2 hbox hb; have n0_ := Aside0.mk (below_step (by repeat (first | (with_reducible first | exact HB.out | apply below_alloc | apply pw_below_drewN | apply below_drew1) | exact HB.out)) hb); have n1_ := Aside0.mk (hbox); have n2_ := Aside0.mk ((by rw [hg]; exact (below_size (by repeat (first | (with_reducible first | exact HB.out | apply below_alloc | apply pw_below_drewN | apply below_drew1) | exact HB.out))) : w.heap.size ≤ gb101)); have n3_ := Aside0.mk ((by rw [hg]; exact (below_size (by repeat (first | (with_reducible first | exact HB.out | apply below_alloc | apply pw_below_drewN | apply below_drew1) | exact HB.out))) : w.heap.size ≤ gb101)); clear HB; have HB := n0_; have BK101 := n1_; have GW101 := n2_; have GE101 := n3_; clear n0_ n1_ n2_ n3_; clear hb hbox hg) | ((with_reducible refine gate_dst (N := 2) rfl ?_); refine box_event ?hg (N := 2) ?hd (cs := #[.bool false, .bool false, .bool false, .bool false]) (t := 25) ?hr ?_; (case hd => rfl); (case hg => rfl); (case hr => first | (go_simp; done) | (go_simp; rfl)); intro gb102 hg w3 hbox hb; have n0_ := Aside0.mk (blk_below (g := gb101) (o := .cells #[.bool a0_0, .bool a0_1, .bool a0_2, .bool a0_3] 23 (0, 0)) (by (with_reducible repeat (first | refine blk_drewN ?_ _ | refine blk_drew ?_ | refine blk_alloc ?_ _)); exact BK101.out) hb); have n1_ := Aside0.mk (below_step (by repeat (first | (with_reducible first | exact HB.out | apply below_alloc | apply pw_below_drewN | apply below_drew1 | refine below_set ?_ GE101.out) | exact HB.out)) hb); have n2_ := Aside0.mk (hbox); have n3_ := Aside0.mk ((by rw [hg]; exact (below_size (by repeat (first | (with_reducible first | exact HB.out | apply below_alloc | apply pw_below_drewN | apply below_drew1 | refine below_set ?_ GE101.out) | exact HB.out))) : w.heap.size ≤ gb102)); have n4_ := Aside0.mk ((by rw [hg]; exact (below_size (by repeat (first | (with_reducible first | exact HB.out | apply below_alloc | apply pw_below_drewN | apply below_drew1 | refine below_set ?_ GE101.out) | exact HB.out))) : w.heap.size ≤ gb102)); have n5_ := Aside0.mk ((by rw [hg]; exact Nat.ne_of_lt (blk_lt (g := gb101) (o := .cells #[.bool a0_0, .bool a0_1, .bool a0_2, .bool a0_3] 23 (0, 0)) (by (with_reducible repeat (first | refine blk_drewN ?_ _ | refine blk_drew ?_ | refine blk_alloc ?_ _)); exact BK101.out)) : gb101 ≠ gb102)); have n6_ := Aside0.mk ((by rw [hg]; exact Nat.ne_of_gt (blk_lt (g := gb101) (o := .cells #[.bool a0_0, .bool a0_1, .bool a0_2, .bool a0_3] 23 (0, 0)) (by (with_reducible repeat (first | refine blk_drewN ?_ _ | refine blk_drew ?_ | refine blk_alloc ?_ _)); exact BK101.out)) : gb102 ≠ gb101)); clear BK101; clear HB; have BK101 := n0_; have HB := n1_; have BK102 := n2_; have GW102 := n3_; have GE102 := n4_; have NB101_102 := n5_; have NB102_101 := n6_; clear n0_ n1_ n2_ n3_ n4_ n5_ n6_; clear hb hbox hg) | ((with_reducible refine gate_dst (N := 3) rfl ?_); refine box_event ?hg (N := 3) ?hd (cs := #[.bool false, .bool false, .bool false, .bool false]) (t := 25) ?hr ?_; (case hd => rfl); (case hg => rfl); (case hr => first | (go_simp; done) | (go_simp; rfl)); intro gb103 hg w4 hbox hb; have n0_ := Aside0.mk (blk_below (g := gb101) (o := .cells #[.bool a0_0, .bool a0_1, .bool a0_2, .bool a0_3] 23 (0, 0)) (by (with_reducible repeat (first | refine blk_drewN ?_ _ | refine blk_drew ?_ | refine blk_alloc ?_ _)); exact BK101.out) hb); have n1_ := Aside0.mk (blk_below (g := gb102) (o := .cells #[.bool false, .bool false, .bool false, .bool false] 25 (0, 0)) (by (with_reducible repeat (first | refine blk_drewN ?_ _ | refine blk_drew ?_ | refine blk_alloc ?_ _)); exact BK102.out) hb); have n2_ := Aside0.mk (below_step (by repeat (first | (with_reducible first | exact HB.out | apply below_alloc | apply pw_below_drewN | apply below_drew1 | refine below_set ?_ GE101.out | refine below_set ?_ GE102.out) | exact HB.out)) hb); have n3_ := Aside0.mk (hbox); have n4_ := Aside0.mk ((by rw [hg]; exact (below_size (by repeat (first | (with_reducible first | exact HB.out | apply below_alloc | apply pw_below_drewN | apply below_drew1 | refine below_set ?_ GE101.out | refine below_set ?_ GE102.out) | exact HB.out))) : w.heap.size ≤ gb103)); have n5_ := Aside0.mk ((by rw [hg]; exact (below_size (by repeat (first | (with_reducible first | exact HB.out | apply below_alloc | apply pw_below_drewN | apply below_drew1 | refine below_set ?_ GE101.out | refine below_set ?_ GE102.out) | exact HB.out))) : w.heap.size ≤ gb103)); have n6_ := Aside0.mk ((by rw [hg]; exact Nat.ne_of_lt (blk_lt (g := gb101) (o := .cells #[.bool a0_0, .bool a0_1, .bool a0_2, .bool a0_3] 23 (0, 0)) (by (with_reducible repeat (first | refine blk_drewN ?_ _ | refine blk_drew ?_ | refine blk_alloc ?_ _)); exact BK101.out)) : gb101 ≠ gb103)); have n7_ := Aside0.mk ((by rw [hg]; exact Nat.ne_of_gt (blk_lt (g := gb101) (o := .cells #[.bool a0_0, .bool a0_1, .bool a0_2, .bool a0_3] 23 (0, 0)) (by (with_reducible repeat (first | refine blk_drewN ?_ _ | refine blk_drew ?_ | refine blk_alloc ?_ _)); exact BK101.out)) : gb103 ≠ gb101)); have n8_ := Aside0.mk ((by rw [hg]; exact Nat.ne_of_lt (blk_lt (g := gb102) (o := .cells #[.bool false, .bool false, .bool false, .bool false] 25 (0, 0)) (by (with_reducible repeat (first | refine blk_drewN ?_ _ | refine blk_drew ?_ | refine blk_alloc ?_ _)); exact BK102.out)) : gb102 ≠ gb103)); have n9_ := Aside0.mk ((by rw [hg]; exact Nat.ne_of_gt (blk_lt (g := gb102) (o := .cells #[.bool false, .bool false, .bool false, .bool false] 25 (0, 0)) (by (with_reducible repeat (first | refine blk_drewN ?_ _ | refine blk_drew ?_ | refine blk_alloc ?_ _)); exact BK102.out)) : gb103 ≠ gb102)); clear BK101; clear BK102; clear HB; have BK101 := n0_; have BK102 := n1_; have HB := n2_; have BK103 := n3_; have GW103 := n4_; have GE103 := n5_; have NB101_103 := n6_; have NB103_101 := n7_; have NB102_103 := n8_; have NB103_102 := n9_; clear n0_ n1_ n2_ n3_ n4_ n5_ n6_ n7_ n8_ n9_; clear hb hbox hg; have hnb5 := NB101_102.out; have hnc5 := NB102_101.out; have hnb6 := NB101_103.out; have hnc6 := NB103_101.out; have hcz7_0 : w4.cell? ⟨gb101, 0, none⟩ = some (.bool a0_0) := (blk_cell BK101.out 0).trans rfl; have hcz7_1 : w4.cell? ⟨gb101, 1, none⟩ = some (.bool a0_1) := (blk_cell BK101.out 1).trans rfl; have hcz7_2 : w4.cell? ⟨gb101, 2, none⟩ = some (.bool a0_2) := (blk_cell BK101.out 2).trans rfl; have hcz7_3 : w4.cell? ⟨gb101, 3, none⟩ = some (.bool a0_3) := (blk_cell BK101.out 3).trans rfl; have hfz7_0 := blk_frozen BK101.out 0; have hfz7_1 := blk_frozen BK101.out 1; have hfz7_2 := blk_frozen BK101.out 2; have hfz7_3 := blk_frozen BK101.out 3; have hnb8 := NB103_102.out; have hnc8 := NB102_103.out; have hcz9_0 : w4.cell? ⟨gb103, 0, none⟩ = some (.bool false) := (blk_cell BK103.out 0).trans rfl; have hcz9_1 : w4.cell? ⟨gb103, 1, none⟩ = some (.bool false) := (blk_cell BK103.out 1).trans rfl; have hcz9_2 : w4.cell? ⟨gb103, 2, none⟩ = some (.bool false) := (blk_cell BK103.out 2).trans rfl; have hcz9_3 : w4.cell? ⟨gb103, 3, none⟩ = some (.bool false) := (blk_cell BK103.out 3).trans rfl; have hfz9_0 := blk_frozen BK103.out 0; have hfz9_1 := blk_frozen BK103.out 1; have hfz9_2 := blk_frozen BK103.out 2; have hfz9_3 := blk_frozen BK103.out 3; have hcz10_0 : w4.cell? ⟨gb102, 0, none⟩ = some (.bool false) := (blk_cell BK102.out 0).trans rfl; have hcz10_1 : w4.cell? ⟨gb102, 1, none⟩ = some (.bool false) := (blk_cell BK102.out 1).trans rfl; have hcz10_2 : w4.cell? ⟨gb102, 2, none⟩ = some (.bool false) := (blk_cell BK102.out 2).trans rfl; have hcz10_3 : w4.cell? ⟨gb102, 3, none⟩ = some (.bool false) := (blk_cell BK102.out 3).trans rfl; have hfz10_0 := blk_frozen BK102.out 0; have hfz10_1 := blk_frozen BK102.out 1; have hfz10_2 := blk_frozen BK102.out 2; have hfz10_3 := blk_frozen BK102.out 3))
  refine bodyPost_ret (results_cell_row rfl _ _ gb102 25 #[.bool a0_0, .bool a0_1, .bool a0_2, .bool a0_3] (0, 0) _ rfl (by (with_reducible repeat (first | refine blk_drewN ?_ _ | refine blk_drew ?_ | refine blk_alloc ?_ _)); refine blk_put (cs := #[.bool a0_0, .bool a0_1, .bool a0_2, .bool false]) ?_ 3 _ rfl; (with_reducible repeat (first | refine blk_drewN ?_ _ | refine blk_drew ?_ | refine blk_alloc ?_ _)); refine blk_put (cs := #[.bool a0_0, .bool a0_1, .bool false, .bool false]) ?_ 2 _ rfl; (with_reducible repeat (first | refine blk_drewN ?_ _ | refine blk_drew ?_ | refine blk_alloc ?_ _)); refine blk_put (cs := #[.bool a0_0, .bool false, .bool false, .bool false]) ?_ 1 _ rfl; (with_reducible repeat (first | refine blk_drewN ?_ _ | refine blk_drew ?_ | refine blk_alloc ?_ _)); refine blk_put (cs := #[.bool false, .bool false, .bool false, .bool false]) ?_ 0 _ rfl; (with_reducible repeat (first | refine blk_drewN ?_ _ | refine blk_drew ?_ | refine blk_alloc ?_ _)); refine blk_far ?_ NB102_103.out _; (with_reducible repeat (first | refine blk_drewN ?_ _ | refine blk_drew ?_ | refine blk_alloc ?_ _)); refine blk_far ?_ NB102_103.out _; (with_reducible repeat (first | refine blk_drewN ?_ _ | refine blk_drew ?_ | refine blk_alloc ?_ _)); refine blk_far ?_ NB102_103.out _; (with_reducible repeat (first | refine blk_drewN ?_ _ | refine blk_drew ?_ | refine blk_alloc ?_ _)); refine blk_far ?_ NB102_103.out _; (with_reducible repeat (first | refine blk_drewN ?_ _ | refine blk_drew ?_ | refine blk_alloc ?_ _)); exact BK102.out) Try.underlying25 rfl (by kernel_rfl)) rfl ?_
  exact ⟨by first | rfl | (simp [errW_none, errW_some] <;> rfl) | (simp [*, errW_none, errW_some] <;> rfl), by repeat (first | (with_reducible first | exact HB.out | apply below_alloc | apply pw_below_drewN | apply below_drew1 | refine below_set ?_ GE101.out | refine below_set ?_ GE102.out | refine below_set ?_ GE103.out) | exact HB.out)⟩

/-! ### spec_l1In: function 60 -/
def spec_l1In.f (a0 : Int) (a1 : Int) (a2 : Int) : Option (Bool) := if a0 ≥ a1 then (some (decide (a0 ≤ a2))) else (some false)
set_option maxHeartbeats 8000000 in
set_option maxRecDepth 100000 in
theorem spec_l1In.calls (a0 : Int) (a1 : Int) (a2 : Int) (r : Bool) (w : World) (h : spec_l1In.f a0 a1 a2 = some r) :
    Calls Try.prog 60 #[.int .i64 a0, .int .i64 a1, .int .i64 a2] w fun e w' => e = .returned (.bool r) ∧ Drawn0 w w' := by
  have H : (if a0 ≥ a1 then (some (decide (a0 ≤ a2))) else (some false)) = some r := h
  clear h
  by_cases c4 : a0 ≥ a1
  · rw [if_pos c4] at H
    have c4b0 : decide (a1 ≤ a0) = true := decide_eq_true c4
    clear c4
    obtain rfl := Option.some.inj H
    go_enter Try.func60, Try.ntmps60
    go_wp2
    go_ret
    exact ⟨by first | rfl | (simp; done) | (simp [*]; done), by repeat (first | exact Drawn0.refl _ | apply Drawn0.step)⟩
  · rw [if_neg c4] at H
    have c4b0 : decide (a1 ≤ a0) = false := decide_eq_false c4
    clear c4
    obtain rfl := Option.some.inj H
    go_enter Try.func60, Try.ntmps60
    go_wp2
    go_ret
    exact ⟨by first | rfl | (simp; done) | (simp [*]; done), by repeat (first | exact Drawn0.refl _ | apply Drawn0.step)⟩

/-! ### spec_l9Part: function 63 -/
def spec_l9Part.f (a0_0 : Bool) (a0_1 : Bool) (a0_2 : Bool) (a0_3 : Bool) (a1 : Int) : Option (Bool) := if a1 = 0 then (some a0_0) else (if a1 = 1 then (some a0_1) else (if a1 = 2 then (some a0_2) else (some a0_3)))
set_option maxHeartbeats 8000000 in
set_option maxRecDepth 100000 in
theorem spec_l9Part.calls (a0_0 : Bool) (a0_1 : Bool) (a0_2 : Bool) (a0_3 : Bool) (a1 : Int) (r : Bool) (w : World) (h : spec_l9Part.f a0_0 a0_1 a0_2 a0_3 a1 = some r) :
    Calls Try.prog 63 #[.agg #[.bool a0_0, .bool a0_1, .bool a0_2, .bool a0_3], .int .i64 a1] w fun e w' => e = .returned (.bool r) ∧ Below w.heap.size w w' := by
  have hu25 := Try.underlying25
  have HB := Aside0.mk (Below.refl w.heap.size w)
  have H : (if a1 = 0 then (some a0_0) else (if a1 = 1 then (some a0_1) else (if a1 = 2 then (some a0_2) else (some a0_3)))) = some r := h
  clear h
  by_cases c3 : a1 = 0
  · rw [if_pos c3] at H
    have c3b0 : (a1 == 0) = true := beq_iff_eq.mpr c3
    have c3b1 : (a1 != 0) = false := bne_eq_false_iff_eq.mpr c3
    clear c3
    obtain rfl := Option.some.inj H
    go_enter Try.func63, Try.ntmps63
    go_wp2_with (first | ((with_reducible refine gate_dst (N := 2) rfl ?_); refine box_event ?hg (N := 2) ?hd (cs := #[.bool a0_0, .bool a0_1, .bool a0_2, .bool a0_3]) (t := 25) ?hr ?_; (case hd => rfl); (case hg => rfl); (case hr => first | (go_simp; done) | (go_simp; rfl)); intro gb104 hg w4 hbox hb; have n0_ := Aside0.mk (below_step (by repeat (first | (with_reducible first | exact HB.out | apply below_alloc | apply pw_below_drewN | apply below_drew1) | exact HB.out)) hb); have n1_ := Aside0.mk (hbox); have n2_ := Aside0.mk ((by rw [hg]; exact (below_size (by repeat (first | (with_reducible first | exact HB.out | apply below_alloc | apply pw_below_drewN | apply below_drew1) | exact HB.out))) : w.heap.size ≤ gb104)); have n3_ := Aside0.mk ((by rw [hg]; exact (below_size (by repeat (first | (with_reducible first | exact HB.out | apply below_alloc | apply pw_below_drewN | apply below_drew1) | exact HB.out))) : w.heap.size ≤ gb104)); clear HB; have HB := n0_; have BK104 := n1_; have GW104 := n2_; have GE104 := n3_; clear n0_ n1_ n2_ n3_; clear hb hbox hg; have hcz5_0 : w4.cell? ⟨gb104, 0, none⟩ = some (.bool a0_0) := (blk_cell BK104.out 0).trans rfl; have hcz5_1 : w4.cell? ⟨gb104, 1, none⟩ = some (.bool a0_1) := (blk_cell BK104.out 1).trans rfl; have hcz5_2 : w4.cell? ⟨gb104, 2, none⟩ = some (.bool a0_2) := (blk_cell BK104.out 2).trans rfl; have hcz5_3 : w4.cell? ⟨gb104, 3, none⟩ = some (.bool a0_3) := (blk_cell BK104.out 3).trans rfl; have hfz5_0 := blk_frozen BK104.out 0; have hfz5_1 := blk_frozen BK104.out 1; have hfz5_2 := blk_frozen BK104.out 2; have hfz5_3 := blk_frozen BK104.out 3))
    go_ret
    exact ⟨by first | rfl | (simp [errW_none, errW_some] <;> rfl) | (simp [*, errW_none, errW_some] <;> rfl), by repeat (first | (with_reducible first | exact HB.out | apply below_alloc | apply pw_below_drewN | apply below_drew1 | refine below_set ?_ GE104.out) | exact HB.out)⟩
  · rw [if_neg c3] at H
    have c3b0 : (a1 == 0) = false := beq_eq_false_iff_ne.mpr c3
    have c3b1 : (a1 != 0) = true := bne_iff_ne.mpr c3
    by_cases c6 : a1 = 1
    · rw [if_pos c6] at H
      have c6b0 : (a1 == 1) = true := beq_iff_eq.mpr c6
      have c6b1 : (a1 != 1) = false := bne_eq_false_iff_eq.mpr c6
      clear c6
      obtain rfl := Option.some.inj H
      go_enter Try.func63, Try.ntmps63
      go_wp2_with (first | ((with_reducible refine gate_dst (N := 2) rfl ?_); refine box_event ?hg (N := 2) ?hd (cs := #[.bool a0_0, .bool a0_1, .bool a0_2, .bool a0_3]) (t := 25) ?hr ?_; (case hd => rfl); (case hg => rfl); (case hr => first | (go_simp; done) | (go_simp; rfl)); intro gb104 hg w7 hbox hb; have n0_ := Aside0.mk (below_step (by repeat (first | (with_reducible first | exact HB.out | apply below_alloc | apply pw_below_drewN | apply below_drew1) | exact HB.out)) hb); have n1_ := Aside0.mk (hbox); have n2_ := Aside0.mk ((by rw [hg]; exact (below_size (by repeat (first | (with_reducible first | exact HB.out | apply below_alloc | apply pw_below_drewN | apply below_drew1) | exact HB.out))) : w.heap.size ≤ gb104)); have n3_ := Aside0.mk ((by rw [hg]; exact (below_size (by repeat (first | (with_reducible first | exact HB.out | apply below_alloc | apply pw_below_drewN | apply below_drew1) | exact HB.out))) : w.heap.size ≤ gb104)); clear HB; have HB := n0_; have BK104 := n1_; have GW104 := n2_; have GE104 := n3_; clear n0_ n1_ n2_ n3_; clear hb hbox hg; have hcz8_0 : w7.cell? ⟨gb104, 0, none⟩ = some (.bool a0_0) := (blk_cell BK104.out 0).trans rfl; have hcz8_1 : w7.cell? ⟨gb104, 1, none⟩ = some (.bool a0_1) := (blk_cell BK104.out 1).trans rfl; have hcz8_2 : w7.cell? ⟨gb104, 2, none⟩ = some (.bool a0_2) := (blk_cell BK104.out 2).trans rfl; have hcz8_3 : w7.cell? ⟨gb104, 3, none⟩ = some (.bool a0_3) := (blk_cell BK104.out 3).trans rfl; have hfz8_0 := blk_frozen BK104.out 0; have hfz8_1 := blk_frozen BK104.out 1; have hfz8_2 := blk_frozen BK104.out 2; have hfz8_3 := blk_frozen BK104.out 3))
      go_ret
      exact ⟨by first | rfl | (simp [errW_none, errW_some] <;> rfl) | (simp [*, errW_none, errW_some] <;> rfl), by repeat (first | (with_reducible first | exact HB.out | apply below_alloc | apply pw_below_drewN | apply below_drew1 | refine below_set ?_ GE104.out) | exact HB.out)⟩
    · rw [if_neg c6] at H
      have c6b0 : (a1 == 1) = false := beq_eq_false_iff_ne.mpr c6
      have c6b1 : (a1 != 1) = true := bne_iff_ne.mpr c6
      by_cases c9 : a1 = 2
      · rw [if_pos c9] at H
        have c9b0 : (a1 == 2) = true := beq_iff_eq.mpr c9
        have c9b1 : (a1 != 2) = false := bne_eq_false_iff_eq.mpr c9
        clear c9
        obtain rfl := Option.some.inj H
        go_enter Try.func63, Try.ntmps63
        go_wp2_with (first | ((with_reducible refine gate_dst (N := 2) rfl ?_); refine box_event ?hg (N := 2) ?hd (cs := #[.bool a0_0, .bool a0_1, .bool a0_2, .bool a0_3]) (t := 25) ?hr ?_; (case hd => rfl); (case hg => rfl); (case hr => first | (go_simp; done) | (go_simp; rfl)); intro gb104 hg w10 hbox hb; have n0_ := Aside0.mk (below_step (by repeat (first | (with_reducible first | exact HB.out | apply below_alloc | apply pw_below_drewN | apply below_drew1) | exact HB.out)) hb); have n1_ := Aside0.mk (hbox); have n2_ := Aside0.mk ((by rw [hg]; exact (below_size (by repeat (first | (with_reducible first | exact HB.out | apply below_alloc | apply pw_below_drewN | apply below_drew1) | exact HB.out))) : w.heap.size ≤ gb104)); have n3_ := Aside0.mk ((by rw [hg]; exact (below_size (by repeat (first | (with_reducible first | exact HB.out | apply below_alloc | apply pw_below_drewN | apply below_drew1) | exact HB.out))) : w.heap.size ≤ gb104)); clear HB; have HB := n0_; have BK104 := n1_; have GW104 := n2_; have GE104 := n3_; clear n0_ n1_ n2_ n3_; clear hb hbox hg; have hcz11_0 : w10.cell? ⟨gb104, 0, none⟩ = some (.bool a0_0) := (blk_cell BK104.out 0).trans rfl; have hcz11_1 : w10.cell? ⟨gb104, 1, none⟩ = some (.bool a0_1) := (blk_cell BK104.out 1).trans rfl; have hcz11_2 : w10.cell? ⟨gb104, 2, none⟩ = some (.bool a0_2) := (blk_cell BK104.out 2).trans rfl; have hcz11_3 : w10.cell? ⟨gb104, 3, none⟩ = some (.bool a0_3) := (blk_cell BK104.out 3).trans rfl; have hfz11_0 := blk_frozen BK104.out 0; have hfz11_1 := blk_frozen BK104.out 1; have hfz11_2 := blk_frozen BK104.out 2; have hfz11_3 := blk_frozen BK104.out 3))
        go_ret
        exact ⟨by first | rfl | (simp [errW_none, errW_some] <;> rfl) | (simp [*, errW_none, errW_some] <;> rfl), by repeat (first | (with_reducible first | exact HB.out | apply below_alloc | apply pw_below_drewN | apply below_drew1 | refine below_set ?_ GE104.out) | exact HB.out)⟩
      · rw [if_neg c9] at H
        have c9b0 : (a1 == 2) = false := beq_eq_false_iff_ne.mpr c9
        have c9b1 : (a1 != 2) = true := bne_iff_ne.mpr c9
        obtain rfl := Option.some.inj H
        go_enter Try.func63, Try.ntmps63
        go_wp2_with (first | ((with_reducible refine gate_dst (N := 2) rfl ?_); refine box_event ?hg (N := 2) ?hd (cs := #[.bool a0_0, .bool a0_1, .bool a0_2, .bool a0_3]) (t := 25) ?hr ?_; (case hd => rfl); (case hg => rfl); (case hr => first | (go_simp; done) | (go_simp; rfl)); intro gb104 hg w12 hbox hb; have n0_ := Aside0.mk (below_step (by repeat (first | (with_reducible first | exact HB.out | apply below_alloc | apply pw_below_drewN | apply below_drew1) | exact HB.out)) hb); have n1_ := Aside0.mk (hbox); have n2_ := Aside0.mk ((by rw [hg]; exact (below_size (by repeat (first | (with_reducible first | exact HB.out | apply below_alloc | apply pw_below_drewN | apply below_drew1) | exact HB.out))) : w.heap.size ≤ gb104)); have n3_ := Aside0.mk ((by rw [hg]; exact (below_size (by repeat (first | (with_reducible first | exact HB.out | apply below_alloc | apply pw_below_drewN | apply below_drew1) | exact HB.out))) : w.heap.size ≤ gb104)); clear HB; have HB := n0_; have BK104 := n1_; have GW104 := n2_; have GE104 := n3_; clear n0_ n1_ n2_ n3_; clear hb hbox hg; have hcz13_0 : w12.cell? ⟨gb104, 0, none⟩ = some (.bool a0_0) := (blk_cell BK104.out 0).trans rfl; have hcz13_1 : w12.cell? ⟨gb104, 1, none⟩ = some (.bool a0_1) := (blk_cell BK104.out 1).trans rfl; have hcz13_2 : w12.cell? ⟨gb104, 2, none⟩ = some (.bool a0_2) := (blk_cell BK104.out 2).trans rfl; have hcz13_3 : w12.cell? ⟨gb104, 3, none⟩ = some (.bool a0_3) := (blk_cell BK104.out 3).trans rfl; have hfz13_0 := blk_frozen BK104.out 0; have hfz13_1 := blk_frozen BK104.out 1; have hfz13_2 := blk_frozen BK104.out 2; have hfz13_3 := blk_frozen BK104.out 3))
        go_ret
        exact ⟨by first | rfl | (simp [errW_none, errW_some] <;> rfl) | (simp [*, errW_none, errW_some] <;> rfl), by repeat (first | (with_reducible first | exact HB.out | apply below_alloc | apply pw_below_drewN | apply below_drew1 | refine below_set ?_ GE104.out) | exact HB.out)⟩

/-! ### spec_BayMay: function 25 -/
def spec_BayMay.may (a b c d : Bool) (n : Nat) : Bool :=
  match n with
  | 0 => a
  | 1 => !a
  | 2 => b && !a
  | 3 => !b && !a
  | 4 => c && !a
  | 5 => !c && !a && !d
  | 6 => d
  | 7 => !d && !c
  | _ => false
def spec_BayMay.f (a0_0 : Bool) (a0_1 : Bool) (a0_2 : Bool) (a0_3 : Bool) (a1 : Int) : Option (Bool) := if 0 ≤ a1 ∧ a1 ≤ 7 then some (spec_BayMay.may a0_0 a0_1 a0_2 a0_3 a1.toNat) else some false
set_option maxHeartbeats 2000000 in
set_option maxRecDepth 100000 in
theorem spec_BayMay.at0 (a0_0 : Bool) (a0_1 : Bool) (a0_2 : Bool) (a0_3 : Bool) (w : World) :
    Calls Try.prog 25 #[.agg #[.bool a0_0, .bool a0_1, .bool a0_2, .bool a0_3], .int .i64 0] w fun e w' => e = .returned (.bool (spec_BayMay.may a0_0 a0_1 a0_2 a0_3 0)) ∧ Below w.heap.size w w' := by
  cases a0_0 <;> cases a0_1 <;> cases a0_2 <;> cases a0_3
  all_goals
    go_enter Try.func25, Try.ntmps25
    go_wp2
    go_ret
    refine ⟨rfl, ?_⟩
    repeat (first | exact Below.refl _ _ | refine Below.setCell ?_ (by simp) _ | refine Below.alloc ?_ (by simp) _)
set_option maxHeartbeats 2000000 in
set_option maxRecDepth 100000 in
theorem spec_BayMay.at1 (a0_0 : Bool) (a0_1 : Bool) (a0_2 : Bool) (a0_3 : Bool) (w : World) :
    Calls Try.prog 25 #[.agg #[.bool a0_0, .bool a0_1, .bool a0_2, .bool a0_3], .int .i64 1] w fun e w' => e = .returned (.bool (spec_BayMay.may a0_0 a0_1 a0_2 a0_3 1)) ∧ Below w.heap.size w w' := by
  cases a0_0 <;> cases a0_1 <;> cases a0_2 <;> cases a0_3
  all_goals
    go_enter Try.func25, Try.ntmps25
    go_wp2
    go_ret
    refine ⟨rfl, ?_⟩
    repeat (first | exact Below.refl _ _ | refine Below.setCell ?_ (by simp) _ | refine Below.alloc ?_ (by simp) _)
set_option maxHeartbeats 2000000 in
set_option maxRecDepth 100000 in
theorem spec_BayMay.at2 (a0_0 : Bool) (a0_1 : Bool) (a0_2 : Bool) (a0_3 : Bool) (w : World) :
    Calls Try.prog 25 #[.agg #[.bool a0_0, .bool a0_1, .bool a0_2, .bool a0_3], .int .i64 2] w fun e w' => e = .returned (.bool (spec_BayMay.may a0_0 a0_1 a0_2 a0_3 2)) ∧ Below w.heap.size w w' := by
  cases a0_0 <;> cases a0_1 <;> cases a0_2 <;> cases a0_3
  all_goals
    go_enter Try.func25, Try.ntmps25
    go_wp2
    go_ret
    refine ⟨rfl, ?_⟩
    repeat (first | exact Below.refl _ _ | refine Below.setCell ?_ (by simp) _ | refine Below.alloc ?_ (by simp) _)
set_option maxHeartbeats 2000000 in
set_option maxRecDepth 100000 in
theorem spec_BayMay.at3 (a0_0 : Bool) (a0_1 : Bool) (a0_2 : Bool) (a0_3 : Bool) (w : World) :
    Calls Try.prog 25 #[.agg #[.bool a0_0, .bool a0_1, .bool a0_2, .bool a0_3], .int .i64 3] w fun e w' => e = .returned (.bool (spec_BayMay.may a0_0 a0_1 a0_2 a0_3 3)) ∧ Below w.heap.size w w' := by
  cases a0_0 <;> cases a0_1 <;> cases a0_2 <;> cases a0_3
  all_goals
    go_enter Try.func25, Try.ntmps25
    go_wp2
    go_ret
    refine ⟨rfl, ?_⟩
    repeat (first | exact Below.refl _ _ | refine Below.setCell ?_ (by simp) _ | refine Below.alloc ?_ (by simp) _)
set_option maxHeartbeats 2000000 in
set_option maxRecDepth 100000 in
theorem spec_BayMay.at4 (a0_0 : Bool) (a0_1 : Bool) (a0_2 : Bool) (a0_3 : Bool) (w : World) :
    Calls Try.prog 25 #[.agg #[.bool a0_0, .bool a0_1, .bool a0_2, .bool a0_3], .int .i64 4] w fun e w' => e = .returned (.bool (spec_BayMay.may a0_0 a0_1 a0_2 a0_3 4)) ∧ Below w.heap.size w w' := by
  cases a0_0 <;> cases a0_1 <;> cases a0_2 <;> cases a0_3
  all_goals
    go_enter Try.func25, Try.ntmps25
    go_wp2
    go_ret
    refine ⟨rfl, ?_⟩
    repeat (first | exact Below.refl _ _ | refine Below.setCell ?_ (by simp) _ | refine Below.alloc ?_ (by simp) _)
set_option maxHeartbeats 2000000 in
set_option maxRecDepth 100000 in
theorem spec_BayMay.at5 (a0_0 : Bool) (a0_1 : Bool) (a0_2 : Bool) (a0_3 : Bool) (w : World) :
    Calls Try.prog 25 #[.agg #[.bool a0_0, .bool a0_1, .bool a0_2, .bool a0_3], .int .i64 5] w fun e w' => e = .returned (.bool (spec_BayMay.may a0_0 a0_1 a0_2 a0_3 5)) ∧ Below w.heap.size w w' := by
  cases a0_0 <;> cases a0_1 <;> cases a0_2 <;> cases a0_3
  all_goals
    go_enter Try.func25, Try.ntmps25
    go_wp2
    go_ret
    refine ⟨rfl, ?_⟩
    repeat (first | exact Below.refl _ _ | refine Below.setCell ?_ (by simp) _ | refine Below.alloc ?_ (by simp) _)
set_option maxHeartbeats 2000000 in
set_option maxRecDepth 100000 in
theorem spec_BayMay.at6 (a0_0 : Bool) (a0_1 : Bool) (a0_2 : Bool) (a0_3 : Bool) (w : World) :
    Calls Try.prog 25 #[.agg #[.bool a0_0, .bool a0_1, .bool a0_2, .bool a0_3], .int .i64 6] w fun e w' => e = .returned (.bool (spec_BayMay.may a0_0 a0_1 a0_2 a0_3 6)) ∧ Below w.heap.size w w' := by
  cases a0_0 <;> cases a0_1 <;> cases a0_2 <;> cases a0_3
  all_goals
    go_enter Try.func25, Try.ntmps25
    go_wp2
    go_ret
    refine ⟨rfl, ?_⟩
    repeat (first | exact Below.refl _ _ | refine Below.setCell ?_ (by simp) _ | refine Below.alloc ?_ (by simp) _)
set_option maxHeartbeats 2000000 in
set_option maxRecDepth 100000 in
theorem spec_BayMay.at7 (a0_0 : Bool) (a0_1 : Bool) (a0_2 : Bool) (a0_3 : Bool) (w : World) :
    Calls Try.prog 25 #[.agg #[.bool a0_0, .bool a0_1, .bool a0_2, .bool a0_3], .int .i64 7] w fun e w' => e = .returned (.bool (spec_BayMay.may a0_0 a0_1 a0_2 a0_3 7)) ∧ Below w.heap.size w w' := by
  cases a0_0 <;> cases a0_1 <;> cases a0_2 <;> cases a0_3
  all_goals
    go_enter Try.func25, Try.ntmps25
    go_wp2
    go_ret
    refine ⟨rfl, ?_⟩
    repeat (first | exact Below.refl _ _ | refine Below.setCell ?_ (by simp) _ | refine Below.alloc ?_ (by simp) _)
set_option maxHeartbeats 2000000 in
set_option maxRecDepth 100000 in
theorem spec_BayMay.out (a0_0 : Bool) (a0_1 : Bool) (a0_2 : Bool) (a0_3 : Bool) (a1 : Int) (w : World) (h : ¬ (0 ≤ a1 ∧ a1 ≤ 7)) :
    Calls Try.prog 25 #[.agg #[.bool a0_0, .bool a0_1, .bool a0_2, .bool a0_3], .int .i64 a1] w fun e w' => e = .returned (.bool false) ∧ Below w.heap.size w w' := by
  by_cases h0 : 0 ≤ a1
  · have h1 : ¬ (a1 ≤ 7) := fun q => h ⟨h0, q⟩
    clear h
    go_enter Try.func25, Try.ntmps25
    go_wp2
    go_ret
    refine ⟨rfl, ?_⟩
    repeat (first | exact Below.refl _ _ | refine Below.setCell ?_ (by simp) _ | refine Below.alloc ?_ (by simp) _)
  · clear h
    go_enter Try.func25, Try.ntmps25
    go_wp2
    go_ret
    refine ⟨rfl, ?_⟩
    repeat (first | exact Below.refl _ _ | refine Below.setCell ?_ (by simp) _ | refine Below.alloc ?_ (by simp) _)
theorem spec_BayMay.calls (a0_0 : Bool) (a0_1 : Bool) (a0_2 : Bool) (a0_3 : Bool) (a1 : Int) (r : Bool) (w : World) (h : spec_BayMay.f a0_0 a0_1 a0_2 a0_3 a1 = some r) :
    Calls Try.prog 25 #[.agg #[.bool a0_0, .bool a0_1, .bool a0_2, .bool a0_3], .int .i64 a1] w fun e w' => e = .returned (.bool r) ∧ Below w.heap.size w w' := by
  unfold spec_BayMay.f at h
  by_cases hb : 0 ≤ a1 ∧ a1 ≤ 7
  · rw [if_pos hb] at h
    obtain rfl := Option.some.inj h
    have h8 : a1 = 0 ∨ a1 = 1 ∨ a1 = 2 ∨ a1 = 3 ∨ a1 = 4 ∨ a1 = 5 ∨ a1 = 6 ∨ a1 = 7 := by omega
    rcases h8 with rfl | rfl | rfl | rfl | rfl | rfl | rfl | rfl
    · exact spec_BayMay.at0 a0_0 a0_1 a0_2 a0_3 w
    · exact spec_BayMay.at1 a0_0 a0_1 a0_2 a0_3 w
    · exact spec_BayMay.at2 a0_0 a0_1 a0_2 a0_3 w
    · exact spec_BayMay.at3 a0_0 a0_1 a0_2 a0_3 w
    · exact spec_BayMay.at4 a0_0 a0_1 a0_2 a0_3 w
    · exact spec_BayMay.at5 a0_0 a0_1 a0_2 a0_3 w
    · exact spec_BayMay.at6 a0_0 a0_1 a0_2 a0_3 w
    · exact spec_BayMay.at7 a0_0 a0_1 a0_2 a0_3 w
  · rw [if_neg hb] at h
    obtain rfl := Option.some.inj h
    exact spec_BayMay.out a0_0 a0_1 a0_2 a0_3 a1 w hb

/-! ### impl_Bay_number: function 64 -/
def impl_Bay_number.bn (b : Bool) (n : Int) : Int := if b = true then n else 0
def impl_Bay_number.f (a0_0 : Bool) (a0_1 : Bool) (a0_2 : Bool) (a0_3 : Bool) : Option (Int) := some (impl_Bay_number.bn a0_0 1 + impl_Bay_number.bn a0_1 2 + impl_Bay_number.bn a0_2 4 + impl_Bay_number.bn a0_3 8)
def impl_Bay_number.pt (a b c d : Bool) (k : Nat) : Int := (if 0 < k then impl_Bay_number.bn a 1 else 0) + (if 1 < k then impl_Bay_number.bn b 2 else 0) + (if 2 < k then impl_Bay_number.bn c 4 else 0) + (if 3 < k then impl_Bay_number.bn d 8 else 0)
set_option maxHeartbeats 2000000 in
set_option maxRecDepth 100000 in
theorem impl_Bay_number.calls (a0_0 : Bool) (a0_1 : Bool) (a0_2 : Bool) (a0_3 : Bool) (r : Int) (w : World) (h : impl_Bay_number.f a0_0 a0_1 a0_2 a0_3 = some r) :
    Calls Try.prog 64 #[.agg #[.bool a0_0, .bool a0_1, .bool a0_2, .bool a0_3]] w fun e w' => e = .returned (.int .i64 r) ∧ Below w.heap.size w w' := by
  have i0 : ∀ w, (Instr.index 94 (.agg #[.bool a0_0, .bool a0_1, .bool a0_2, .bool a0_3]) (.int .i64 0)).run Try.prog w = .ok (.bool a0_0) w := fun _ => by kernel_rfl
  have i1 : ∀ w, (Instr.index 94 (.agg #[.bool a0_0, .bool a0_1, .bool a0_2, .bool a0_3]) (.int .i64 1)).run Try.prog w = .ok (.bool a0_1) w := fun _ => by kernel_rfl
  have i2 : ∀ w, (Instr.index 94 (.agg #[.bool a0_0, .bool a0_1, .bool a0_2, .bool a0_3]) (.int .i64 2)).run Try.prog w = .ok (.bool a0_2) w := fun _ => by kernel_rfl
  have i3 : ∀ w, (Instr.index 94 (.agg #[.bool a0_0, .bool a0_1, .bool a0_2, .bool a0_3]) (.int .i64 3)).run Try.prog w = .ok (.bool a0_3) w := fun _ => by kernel_rfl
  obtain rfl := Option.some.inj h
  go_enter Try.func64, Try.ntmps64
  go_wp2
  go_loop [3, 15] (fun n i => ∃ k : Nat, k ≤ 4 ∧ i = .int .i64 k ∧ n = .int .i64 (impl_Bay_number.pt a0_0 a0_1 a0_2 a0_3 k)) (fun _ i => 4 - (intOf i).toNat)
  case atStart => exact ⟨0, by omega, rfl, rfl⟩
  case round =>
    obtain ⟨k, hk, rfl, rfl⟩ := hrel
    have hk4 : k = 0 ∨ k = 1 ∨ k = 2 ∨ k = 3 ∨ k = 4 := by omega
    rcases hk4 with rfl | rfl | rfl | rfl | rfl
    · cases a0_0 <;>
      · go_wp2
        go_round
        case rel => exact ⟨1, by omega, rfl, by cases a0_1 <;> cases a0_2 <;> cases a0_3 <;> rfl⟩
        case measure => simp [intOf]
    · cases a0_1 <;>
      · go_wp2
        go_round
        case rel => exact ⟨2, by omega, rfl, by cases a0_0 <;> cases a0_2 <;> cases a0_3 <;> rfl⟩
        case measure => simp [intOf]
    · cases a0_2 <;>
      · go_wp2
        go_round
        case rel => exact ⟨3, by omega, rfl, by cases a0_0 <;> cases a0_1 <;> cases a0_3 <;> rfl⟩
        case measure => simp [intOf]
    · cases a0_3 <;>
      · go_wp2
        go_round
        case rel => exact ⟨4, by omega, rfl, by cases a0_0 <;> cases a0_1 <;> cases a0_2 <;> rfl⟩
        case measure => simp [intOf]
    · go_wp2
      go_ret
      exact ⟨by cases a0_0 <;> cases a0_1 <;> cases a0_2 <;> cases a0_3 <;> rfl, (Below.refl _ _).alloc (Nat.le_refl _) _⟩

/-! ### impl_BayMay: function 26 -/
def impl_BayMay.may (a b c d : Bool) (n : Nat) : Bool :=
  match n with
  | 0 => a
  | 1 => !a
  | 2 => b && !a
  | 3 => !b && !a
  | 4 => c && !a
  | 5 => !c && !a && !d
  | 6 => d
  | 7 => !d && !c
  | _ => false
def impl_BayMay.f (a0_0 : Bool) (a0_1 : Bool) (a0_2 : Bool) (a0_3 : Bool) (a1 : Int) : Option (Bool) := if 0 ≤ a1 ∧ a1 ≤ 7 then some (impl_BayMay.may a0_0 a0_1 a0_2 a0_3 a1.toNat) else some false
theorem impl_BayMay.cell {W w1 : World} (hb : Below W.heap.size W w1) : (∀ b o, b < W.heap.size → w1.cell? ⟨b, o, none⟩ = W.cell? ⟨b, o, none⟩) ∧ (∀ b o, b < W.heap.size → w1.frozen? ⟨b, o, none⟩ = W.frozen? ⟨b, o, none⟩) :=
  ⟨fun b o h => hb.cell (p := ⟨b, o, none⟩) h, fun b o h => hb.frozen (p := ⟨b, o, none⟩) h⟩
set_option maxHeartbeats 2000000 in
set_option maxRecDepth 100000 in
theorem impl_BayMay.at0 (a0_0 : Bool) (a0_1 : Bool) (a0_2 : Bool) (a0_3 : Bool) (w : World) :
    Calls Try.prog 26 #[.agg #[.bool a0_0, .bool a0_1, .bool a0_2, .bool a0_3], .int .i64 0] w fun e w' => e = .returned (.bool (impl_BayMay.may a0_0 a0_1 a0_2 a0_3 0)) ∧ Below w.heap.size w w' := by
  have b1 : ∀ n, impl_Bay_number.bn true n = n := fun _ => rfl
  have b0 : ∀ n, impl_Bay_number.bn false n = 0 := fun _ => rfl
  have q0 : Go.bits .and .i64 0 1 = 0 := by decide
  have q1 : Go.bits .and .i64 1 1 = 1 := by decide
  have q2 : Go.bits .and .i64 2 1 = 0 := by decide
  have q3 : Go.bits .and .i64 3 1 = 1 := by decide
  have q4 : Go.bits .and .i64 4 1 = 0 := by decide
  have q5 : Go.bits .and .i64 5 1 = 1 := by decide
  have q6 : Go.bits .and .i64 6 1 = 0 := by decide
  have q7 : Go.bits .and .i64 7 1 = 1 := by decide
  have q8 : Go.bits .and .i64 8 1 = 0 := by decide
  have q9 : Go.bits .and .i64 9 1 = 1 := by decide
  have q10 : Go.bits .and .i64 10 1 = 0 := by decide
  have q11 : Go.bits .and .i64 11 1 = 1 := by decide
  have q12 : Go.bits .and .i64 12 1 = 0 := by decide
  have q13 : Go.bits .and .i64 13 1 = 1 := by decide
  have q14 : Go.bits .and .i64 14 1 = 0 := by decide
  have q15 : Go.bits .and .i64 15 1 = 1 := by decide
  cases a0_0 <;> cases a0_1 <;> cases a0_2 <;> cases a0_3
  all_goals
    go_enter Try.func26, Try.ntmps26
    go_wp2_with (go_at_call 64; refine (impl_Bay_number.calls _ _ _ _ _ _ rfl).mono ?_; rintro e w1 ⟨rfl, hb1⟩; obtain ⟨hc1, hf1⟩ := impl_BayMay.cell hb1)
    go_ret
    refine ⟨rfl, ?_⟩
    refine Below.trans ((Below.refl _ _).alloc (Nat.le_refl _) _) (hb1.mono (by simp))
set_option maxHeartbeats 2000000 in
set_option maxRecDepth 100000 in
theorem impl_BayMay.at1 (a0_0 : Bool) (a0_1 : Bool) (a0_2 : Bool) (a0_3 : Bool) (w : World) :
    Calls Try.prog 26 #[.agg #[.bool a0_0, .bool a0_1, .bool a0_2, .bool a0_3], .int .i64 1] w fun e w' => e = .returned (.bool (impl_BayMay.may a0_0 a0_1 a0_2 a0_3 1)) ∧ Below w.heap.size w w' := by
  have b1 : ∀ n, impl_Bay_number.bn true n = n := fun _ => rfl
  have b0 : ∀ n, impl_Bay_number.bn false n = 0 := fun _ => rfl
  have q0 : Go.bits .and .i64 0 1 = 0 := by decide
  have q1 : Go.bits .and .i64 1 1 = 1 := by decide
  have q2 : Go.bits .and .i64 2 1 = 0 := by decide
  have q3 : Go.bits .and .i64 3 1 = 1 := by decide
  have q4 : Go.bits .and .i64 4 1 = 0 := by decide
  have q5 : Go.bits .and .i64 5 1 = 1 := by decide
  have q6 : Go.bits .and .i64 6 1 = 0 := by decide
  have q7 : Go.bits .and .i64 7 1 = 1 := by decide
  have q8 : Go.bits .and .i64 8 1 = 0 := by decide
  have q9 : Go.bits .and .i64 9 1 = 1 := by decide
  have q10 : Go.bits .and .i64 10 1 = 0 := by decide
  have q11 : Go.bits .and .i64 11 1 = 1 := by decide
  have q12 : Go.bits .and .i64 12 1 = 0 := by decide
  have q13 : Go.bits .and .i64 13 1 = 1 := by decide
  have q14 : Go.bits .and .i64 14 1 = 0 := by decide
  have q15 : Go.bits .and .i64 15 1 = 1 := by decide
  cases a0_0 <;> cases a0_1 <;> cases a0_2 <;> cases a0_3
  all_goals
    go_enter Try.func26, Try.ntmps26
    go_wp2_with (go_at_call 64; refine (impl_Bay_number.calls _ _ _ _ _ _ rfl).mono ?_; rintro e w1 ⟨rfl, hb1⟩; obtain ⟨hc1, hf1⟩ := impl_BayMay.cell hb1)
    go_ret
    refine ⟨rfl, ?_⟩
    refine Below.trans ((Below.refl _ _).alloc (Nat.le_refl _) _) (hb1.mono (by simp))
set_option maxHeartbeats 2000000 in
set_option maxRecDepth 100000 in
theorem impl_BayMay.at2 (a0_0 : Bool) (a0_1 : Bool) (a0_2 : Bool) (a0_3 : Bool) (w : World) :
    Calls Try.prog 26 #[.agg #[.bool a0_0, .bool a0_1, .bool a0_2, .bool a0_3], .int .i64 2] w fun e w' => e = .returned (.bool (impl_BayMay.may a0_0 a0_1 a0_2 a0_3 2)) ∧ Below w.heap.size w w' := by
  have b1 : ∀ n, impl_Bay_number.bn true n = n := fun _ => rfl
  have b0 : ∀ n, impl_Bay_number.bn false n = 0 := fun _ => rfl
  have q0 : Go.bits .and .i64 0 1 = 0 := by decide
  have q1 : Go.bits .and .i64 1 1 = 1 := by decide
  have q2 : Go.bits .and .i64 2 1 = 0 := by decide
  have q3 : Go.bits .and .i64 3 1 = 1 := by decide
  have q4 : Go.bits .and .i64 4 1 = 0 := by decide
  have q5 : Go.bits .and .i64 5 1 = 1 := by decide
  have q6 : Go.bits .and .i64 6 1 = 0 := by decide
  have q7 : Go.bits .and .i64 7 1 = 1 := by decide
  cases a0_0 <;> cases a0_1 <;> cases a0_2 <;> cases a0_3
  all_goals
    go_enter Try.func26, Try.ntmps26
    go_wp2_with (go_at_call 64; refine (impl_Bay_number.calls _ _ _ _ _ _ rfl).mono ?_; rintro e w1 ⟨rfl, hb1⟩; obtain ⟨hc1, hf1⟩ := impl_BayMay.cell hb1)
    go_ret
    refine ⟨rfl, ?_⟩
    refine Below.trans ((Below.refl _ _).alloc (Nat.le_refl _) _) (hb1.mono (by simp))
set_option maxHeartbeats 2000000 in
set_option maxRecDepth 100000 in
theorem impl_BayMay.at3 (a0_0 : Bool) (a0_1 : Bool) (a0_2 : Bool) (a0_3 : Bool) (w : World) :
    Calls Try.prog 26 #[.agg #[.bool a0_0, .bool a0_1, .bool a0_2, .bool a0_3], .int .i64 3] w fun e w' => e = .returned (.bool (impl_BayMay.may a0_0 a0_1 a0_2 a0_3 3)) ∧ Below w.heap.size w w' := by
  have b1 : ∀ n, impl_Bay_number.bn true n = n := fun _ => rfl
  have b0 : ∀ n, impl_Bay_number.bn false n = 0 := fun _ => rfl
  have q0 : Go.bits .and .i64 0 1 = 0 := by decide
  have q1 : Go.bits .and .i64 1 1 = 1 := by decide
  have q2 : Go.bits .and .i64 2 1 = 0 := by decide
  have q3 : Go.bits .and .i64 3 1 = 1 := by decide
  have q4 : Go.bits .and .i64 4 1 = 0 := by decide
  have q5 : Go.bits .and .i64 5 1 = 1 := by decide
  have q6 : Go.bits .and .i64 6 1 = 0 := by decide
  have q7 : Go.bits .and .i64 7 1 = 1 := by decide
  cases a0_0 <;> cases a0_1 <;> cases a0_2 <;> cases a0_3
  all_goals
    go_enter Try.func26, Try.ntmps26
    go_wp2_with (go_at_call 64; refine (impl_Bay_number.calls _ _ _ _ _ _ rfl).mono ?_; rintro e w1 ⟨rfl, hb1⟩; obtain ⟨hc1, hf1⟩ := impl_BayMay.cell hb1)
    go_ret
    refine ⟨rfl, ?_⟩
    refine Below.trans ((Below.refl _ _).alloc (Nat.le_refl _) _) (hb1.mono (by simp))
set_option maxHeartbeats 2000000 in
set_option maxRecDepth 100000 in
theorem impl_BayMay.at4 (a0_0 : Bool) (a0_1 : Bool) (a0_2 : Bool) (a0_3 : Bool) (w : World) :
    Calls Try.prog 26 #[.agg #[.bool a0_0, .bool a0_1, .bool a0_2, .bool a0_3], .int .i64 4] w fun e w' => e = .returned (.bool (impl_BayMay.may a0_0 a0_1 a0_2 a0_3 4)) ∧ Below w.heap.size w w' := by
  have b1 : ∀ n, impl_Bay_number.bn true n = n := fun _ => rfl
  have b0 : ∀ n, impl_Bay_number.bn false n = 0 := fun _ => rfl
  have q0 : Go.bits .and .i64 0 1 = 0 := by decide
  have q1 : Go.bits .and .i64 1 1 = 1 := by decide
  have q2 : Go.bits .and .i64 2 1 = 0 := by decide
  have q3 : Go.bits .and .i64 3 1 = 1 := by decide
  cases a0_0 <;> cases a0_1 <;> cases a0_2 <;> cases a0_3
  all_goals
    go_enter Try.func26, Try.ntmps26
    go_wp2_with (go_at_call 64; refine (impl_Bay_number.calls _ _ _ _ _ _ rfl).mono ?_; rintro e w1 ⟨rfl, hb1⟩; obtain ⟨hc1, hf1⟩ := impl_BayMay.cell hb1)
    go_ret
    refine ⟨rfl, ?_⟩
    refine Below.trans ((Below.refl _ _).alloc (Nat.le_refl _) _) (hb1.mono (by simp))
set_option maxHeartbeats 2000000 in
set_option maxRecDepth 100000 in
theorem impl_BayMay.at5 (a0_0 : Bool) (a0_1 : Bool) (a0_2 : Bool) (a0_3 : Bool) (w : World) :
    Calls Try.prog 26 #[.agg #[.bool a0_0, .bool a0_1, .bool a0_2, .bool a0_3], .int .i64 5] w fun e w' => e = .returned (.bool (impl_BayMay.may a0_0 a0_1 a0_2 a0_3 5)) ∧ Below w.heap.size w w' := by
  have b1 : ∀ n, impl_Bay_number.bn true n = n := fun _ => rfl
  have b0 : ∀ n, impl_Bay_number.bn false n = 0 := fun _ => rfl
  have q0 : Go.bits .and .i64 0 1 = 0 := by decide
  have q1 : Go.bits .and .i64 1 1 = 1 := by decide
  have q2 : Go.bits .and .i64 2 1 = 0 := by decide
  have q3 : Go.bits .and .i64 3 1 = 1 := by decide
  cases a0_0 <;> cases a0_1 <;> cases a0_2 <;> cases a0_3
  all_goals
    go_enter Try.func26, Try.ntmps26
    go_wp2_with (go_at_call 64; refine (impl_Bay_number.calls _ _ _ _ _ _ rfl).mono ?_; rintro e w1 ⟨rfl, hb1⟩; obtain ⟨hc1, hf1⟩ := impl_BayMay.cell hb1)
    go_ret
    refine ⟨rfl, ?_⟩
    refine Below.trans ((Below.refl _ _).alloc (Nat.le_refl _) _) (hb1.mono (by simp))
set_option maxHeartbeats 2000000 in
set_option maxRecDepth 100000 in
theorem impl_BayMay.at6 (a0_0 : Bool) (a0_1 : Bool) (a0_2 : Bool) (a0_3 : Bool) (w : World) :
    Calls Try.prog 26 #[.agg #[.bool a0_0, .bool a0_1, .bool a0_2, .bool a0_3], .int .i64 6] w fun e w' => e = .returned (.bool (impl_BayMay.may a0_0 a0_1 a0_2 a0_3 6)) ∧ Below w.heap.size w w' := by
  have b1 : ∀ n, impl_Bay_number.bn true n = n := fun _ => rfl
  have b0 : ∀ n, impl_Bay_number.bn false n = 0 := fun _ => rfl
  have q0 : Go.bits .and .i64 0 1 = 0 := by decide
  have q1 : Go.bits .and .i64 1 1 = 1 := by decide
  cases a0_0 <;> cases a0_1 <;> cases a0_2 <;> cases a0_3
  all_goals
    go_enter Try.func26, Try.ntmps26
    go_wp2_with (go_at_call 64; refine (impl_Bay_number.calls _ _ _ _ _ _ rfl).mono ?_; rintro e w1 ⟨rfl, hb1⟩; obtain ⟨hc1, hf1⟩ := impl_BayMay.cell hb1)
    go_ret
    refine ⟨rfl, ?_⟩
    refine Below.trans ((Below.refl _ _).alloc (Nat.le_refl _) _) (hb1.mono (by simp))
set_option maxHeartbeats 2000000 in
set_option maxRecDepth 100000 in
theorem impl_BayMay.at7 (a0_0 : Bool) (a0_1 : Bool) (a0_2 : Bool) (a0_3 : Bool) (w : World) :
    Calls Try.prog 26 #[.agg #[.bool a0_0, .bool a0_1, .bool a0_2, .bool a0_3], .int .i64 7] w fun e w' => e = .returned (.bool (impl_BayMay.may a0_0 a0_1 a0_2 a0_3 7)) ∧ Below w.heap.size w w' := by
  have b1 : ∀ n, impl_Bay_number.bn true n = n := fun _ => rfl
  have b0 : ∀ n, impl_Bay_number.bn false n = 0 := fun _ => rfl
  have q0 : Go.bits .and .i64 0 1 = 0 := by decide
  have q1 : Go.bits .and .i64 1 1 = 1 := by decide
  cases a0_0 <;> cases a0_1 <;> cases a0_2 <;> cases a0_3
  all_goals
    go_enter Try.func26, Try.ntmps26
    go_wp2_with (go_at_call 64; refine (impl_Bay_number.calls _ _ _ _ _ _ rfl).mono ?_; rintro e w1 ⟨rfl, hb1⟩; obtain ⟨hc1, hf1⟩ := impl_BayMay.cell hb1)
    go_ret
    refine ⟨rfl, ?_⟩
    refine Below.trans ((Below.refl _ _).alloc (Nat.le_refl _) _) (hb1.mono (by simp))
set_option maxHeartbeats 2000000 in
set_option maxRecDepth 100000 in
theorem impl_BayMay.out (a0_0 : Bool) (a0_1 : Bool) (a0_2 : Bool) (a0_3 : Bool) (a1 : Int) (w : World) (h : ¬ (0 ≤ a1 ∧ a1 ≤ 7)) :
    Calls Try.prog 26 #[.agg #[.bool a0_0, .bool a0_1, .bool a0_2, .bool a0_3], .int .i64 a1] w fun e w' => e = .returned (.bool false) ∧ Below w.heap.size w w' := by
  by_cases h0 : 0 ≤ a1
  · have h1 : ¬ (a1 ≤ 7) := fun q => h ⟨h0, q⟩
    clear h
    go_enter Try.func26, Try.ntmps26
    go_wp2
    go_ret
    refine ⟨rfl, ?_⟩
    repeat (first | exact Below.refl _ _ | refine Below.setCell ?_ (by simp) _ | refine Below.alloc ?_ (by simp) _)
  · clear h
    go_enter Try.func26, Try.ntmps26
    go_wp2
    go_ret
    refine ⟨rfl, ?_⟩
    repeat (first | exact Below.refl _ _ | refine Below.setCell ?_ (by simp) _ | refine Below.alloc ?_ (by simp) _)
theorem impl_BayMay.calls (a0_0 : Bool) (a0_1 : Bool) (a0_2 : Bool) (a0_3 : Bool) (a1 : Int) (r : Bool) (w : World) (h : impl_BayMay.f a0_0 a0_1 a0_2 a0_3 a1 = some r) :
    Calls Try.prog 26 #[.agg #[.bool a0_0, .bool a0_1, .bool a0_2, .bool a0_3], .int .i64 a1] w fun e w' => e = .returned (.bool r) ∧ Below w.heap.size w w' := by
  unfold impl_BayMay.f at h
  by_cases hb : 0 ≤ a1 ∧ a1 ≤ 7
  · rw [if_pos hb] at h
    obtain rfl := Option.some.inj h
    have h8 : a1 = 0 ∨ a1 = 1 ∨ a1 = 2 ∨ a1 = 3 ∨ a1 = 4 ∨ a1 = 5 ∨ a1 = 6 ∨ a1 = 7 := by omega
    rcases h8 with rfl | rfl | rfl | rfl | rfl | rfl | rfl | rfl
    · exact impl_BayMay.at0 a0_0 a0_1 a0_2 a0_3 w
    · exact impl_BayMay.at1 a0_0 a0_1 a0_2 a0_3 w
    · exact impl_BayMay.at2 a0_0 a0_1 a0_2 a0_3 w
    · exact impl_BayMay.at3 a0_0 a0_1 a0_2 a0_3 w
    · exact impl_BayMay.at4 a0_0 a0_1 a0_2 a0_3 w
    · exact impl_BayMay.at5 a0_0 a0_1 a0_2 a0_3 w
    · exact impl_BayMay.at6 a0_0 a0_1 a0_2 a0_3 w
    · exact impl_BayMay.at7 a0_0 a0_1 a0_2 a0_3 w
  · rw [if_neg hb] at h
    obtain rfl := Option.some.inj h
    exact impl_BayMay.out a0_0 a0_1 a0_2 a0_3 a1 w hb

/-! ### laws_FnExactBayMay: function 7 -/
def laws_FnExactBayMay.f (a0_0 : Bool) (a0_1 : Bool) (a0_2 : Bool) (a0_3 : Bool) (a1 : Int) : Option (Bool) := (laws_toBay.f a0_0 a0_1 a0_2 a0_3).bind fun bt106 => ((spec_BayMay.f bt106.1 bt106.2.1 bt106.2.2.1 bt106.2.2.2 a1).bind fun t110 => ((laws_toBay.f a0_0 a0_1 a0_2 a0_3).bind fun bt111 => ((impl_BayMay.f bt111.1 bt111.2.1 bt111.2.2.1 bt111.2.2.2 a1).bind fun t115 => (if (t115 != t110) = true then (some false) else (some true)))))
set_option maxHeartbeats 8000000 in
set_option maxRecDepth 100000 in
theorem laws_FnExactBayMay.calls (a0_0 : Bool) (a0_1 : Bool) (a0_2 : Bool) (a0_3 : Bool) (a1 : Int) (r : Bool) (w : World) (h : laws_FnExactBayMay.f a0_0 a0_1 a0_2 a0_3 a1 = some r) :
    Calls Try.prog 7 #[.agg #[.bool a0_0, .bool a0_1, .bool a0_2, .bool a0_3], .int .i64 a1] w fun e w' => e = .returned (.bool r) ∧ Below w.heap.size w w' := by
  have hu23 := Try.underlying23
  have HB := Aside0.mk (Below.refl w.heap.size w)
  have H : ((laws_toBay.f a0_0 a0_1 a0_2 a0_3).bind fun bt106 => ((spec_BayMay.f bt106.1 bt106.2.1 bt106.2.2.1 bt106.2.2.2 a1).bind fun t110 => ((laws_toBay.f a0_0 a0_1 a0_2 a0_3).bind fun bt111 => ((impl_BayMay.f bt111.1 bt111.2.1 bt111.2.2.1 bt111.2.2.2 a1).bind fun t115 => (if (t115 != t110) = true then (some false) else (some true)))))) = some r := h
  clear h
  replace H := Option.bind_eq_some_iff.mp H
  obtain ⟨⟨t106, t107, t108, t109⟩, A30, H⟩ := H
  replace H : ((spec_BayMay.f t106 t107 t108 t109 a1).bind fun t110 => ((laws_toBay.f a0_0 a0_1 a0_2 a0_3).bind fun bt111 => ((impl_BayMay.f bt111.1 bt111.2.1 bt111.2.2.1 bt111.2.2.2 a1).bind fun t115 => (if (t115 != t110) = true then (some false) else (some true))))) = some r := H
  have A3 := Aside0.mk A30
  clear A30
  replace H := Option.bind_eq_some_iff.mp H
  obtain ⟨t110, A40, H⟩ := H
  replace H : ((laws_toBay.f a0_0 a0_1 a0_2 a0_3).bind fun bt111 => ((impl_BayMay.f bt111.1 bt111.2.1 bt111.2.2.1 bt111.2.2.2 a1).bind fun t115 => (if (t115 != t110) = true then (some false) else (some true)))) = some r := H
  have A4 := Aside0.mk A40
  clear A40
  replace H := Option.bind_eq_some_iff.mp H
  obtain ⟨⟨t111, t112, t113, t114⟩, A50, H⟩ := H
  replace H : ((impl_BayMay.f t111 t112 t113 t114 a1).bind fun t115 => (if (t115 != t110) = true then (some false) else (some true))) = some r := H
  have A5 := Aside0.mk A50
  clear A50
  replace H := Option.bind_eq_some_iff.mp H
  obtain ⟨t115, A60, H⟩ := H
  replace H : (if (t115 != t110) = true then (some false) else (some true)) = some r := H
  have A6 := Aside0.mk A60
  clear A60
  by_cases c7 : (t115 != t110) = true
  · rw [if_pos c7] at H
    have c7b0 : (t115 != t110) = true := c7
    (try (have c7b1 : decide (t115 = t110) = false := by simpa using c7))
    (try (have c7b2 : (t115 == t110) = false := by simpa using c7))
    (try (have c7b3 : ¬ (t115 = t110) := by simpa using c7))
    clear c7
    obtain rfl := Option.some.inj H
    go_enter Try.func7, Try.ntmps7
    go_wp2_with (first | ((with_reducible refine gate_dst (N := 2) rfl ?_); refine box_event ?hg (N := 2) ?hd (cs := #[.bool a0_0, .bool a0_1, .bool a0_2, .bool a0_3]) (t := 23) ?hr ?_; (case hd => rfl); (case hg => rfl); (case hr => first | (go_simp; done) | (go_simp; rfl)); intro gb105 hg w8 hbox hb; have n0_ := Aside0.mk (below_step (by repeat (first | (with_reducible first | exact HB.out | apply below_alloc | apply pw_below_drewN | apply below_drew1) | exact HB.out)) hb); have n1_ := Aside0.mk (hbox); have n2_ := Aside0.mk ((by rw [hg]; exact (below_size (by repeat (first | (with_reducible first | exact HB.out | apply below_alloc | apply pw_below_drewN | apply below_drew1) | exact HB.out))) : w.heap.size ≤ gb105)); have n3_ := Aside0.mk ((by rw [hg]; exact (below_size (by repeat (first | (with_reducible first | exact HB.out | apply below_alloc | apply pw_below_drewN | apply below_drew1) | exact HB.out))) : w.heap.size ≤ gb105)); clear HB; have HB := n0_; have BK105 := n1_; have GW105 := n2_; have GE105 := n3_; clear n0_ n1_ n2_ n3_; clear hb hbox hg; have hcz9_0 : w8.cell? ⟨gb105, 0, none⟩ = some (.bool a0_0) := (blk_cell BK105.out 0).trans rfl; have hcz9_1 : w8.cell? ⟨gb105, 1, none⟩ = some (.bool a0_1) := (blk_cell BK105.out 1).trans rfl; have hcz9_2 : w8.cell? ⟨gb105, 2, none⟩ = some (.bool a0_2) := (blk_cell BK105.out 2).trans rfl; have hcz9_3 : w8.cell? ⟨gb105, 3, none⟩ = some (.bool a0_3) := (blk_cell BK105.out 3).trans rfl; have hfz9_0 := blk_frozen BK105.out 0; have hfz9_1 := blk_frozen BK105.out 1; have hfz9_2 := blk_frozen BK105.out 2; have hfz9_3 := blk_frozen BK105.out 3) | ((with_reducible refine gate_callee (f := 16) rfl ?_); refine goesL_ (some 8) rfl rfl Try.func16 (by kernel_rfl) rfl #[.agg #[.bool a0_0, .bool a0_1, .bool a0_2, .bool a0_3]] rfl (by (try simp only [List.map_toArray, List.map_cons, List.map_nil]); first | done | rfl | (simp only [List.length_drop, List.length_take]; rfl)) ?_; (with_reducible refine (laws_toBay.calls a0_0 a0_1 a0_2 a0_3 t106 t107 t108 t109 _ A3.out).mono ?_); rintro e w10 ⟨rfl, hb⟩; refine ⟨_, rfl, ?_⟩; have n0_ := Aside0.mk (blk_below (g := gb105) (o := .cells #[.bool a0_0, .bool a0_1, .bool a0_2, .bool a0_3] 23 (0, 0)) (by (with_reducible repeat (first | refine blk_drewN ?_ _ | refine blk_drew ?_ | refine blk_alloc ?_ _)); exact BK105.out) hb); have n1_ := Aside0.mk (below_step (by repeat (first | (with_reducible first | exact HB.out | apply below_alloc | apply pw_below_drewN | apply below_drew1 | refine below_set ?_ GE105.out) | exact HB.out)) hb); clear BK105; clear HB; have BK105 := n0_; have HB := n1_; clear n0_ n1_; (try clear hb); (try clear hb2); (try clear hk); (try clear hi)) | ((with_reducible refine gate_callee (f := 25) rfl ?_); refine goesL_ (some 10) rfl rfl Try.func25 (by kernel_rfl) rfl #[.agg #[.bool t106, .bool t107, .bool t108, .bool t109], .int .i64 a1] rfl (by (try simp only [List.map_toArray, List.map_cons, List.map_nil]); first | done | rfl | (simp only [List.length_drop, List.length_take]; rfl)) ?_; (with_reducible refine (spec_BayMay.calls t106 t107 t108 t109 a1 t110 _ A4.out).mono ?_); rintro e w11 ⟨rfl, hb⟩; refine ⟨_, rfl, ?_⟩; have n0_ := Aside0.mk (blk_below (g := gb105) (o := .cells #[.bool a0_0, .bool a0_1, .bool a0_2, .bool a0_3] 23 (0, 0)) (by (with_reducible repeat (first | refine blk_drewN ?_ _ | refine blk_drew ?_ | refine blk_alloc ?_ _)); exact BK105.out) hb); have n1_ := Aside0.mk (below_step (by repeat (first | (with_reducible first | exact HB.out | apply below_alloc | apply pw_below_drewN | apply below_drew1 | refine below_set ?_ GE105.out) | exact HB.out)) hb); clear BK105; clear HB; have BK105 := n0_; have HB := n1_; clear n0_ n1_; (try clear hb); (try clear hb2); (try clear hk); (try clear hi); have hcz12_0 : w11.cell? ⟨gb105, 0, none⟩ = some (.bool a0_0) := (blk_cell BK105.out 0).trans rfl; have hcz12_1 : w11.cell? ⟨gb105, 1, none⟩ = some (.bool a0_1) := (blk_cell BK105.out 1).trans rfl; have hcz12_2 : w11.cell? ⟨gb105, 2, none⟩ = some (.bool a0_2) := (blk_cell BK105.out 2).trans rfl; have hcz12_3 : w11.cell? ⟨gb105, 3, none⟩ = some (.bool a0_3) := (blk_cell BK105.out 3).trans rfl; have hfz12_0 := blk_frozen BK105.out 0; have hfz12_1 := blk_frozen BK105.out 1; have hfz12_2 := blk_frozen BK105.out 2; have hfz12_3 := blk_frozen BK105.out 3) | ((with_reducible refine gate_callee (f := 16) rfl ?_); refine goesL_ (some 12) rfl rfl Try.func16 (by kernel_rfl) rfl #[.agg #[.bool a0_0, .bool a0_1, .bool a0_2, .bool a0_3]] rfl (by (try simp only [List.map_toArray, List.map_cons, List.map_nil]); first | done | rfl | (simp only [List.length_drop, List.length_take]; rfl)) ?_; (with_reducible refine (laws_toBay.calls a0_0 a0_1 a0_2 a0_3 t111 t112 t113 t114 _ A5.out).mono ?_); rintro e w13 ⟨rfl, hb⟩; refine ⟨_, rfl, ?_⟩; have n0_ := Aside0.mk (blk_below (g := gb105) (o := .cells #[.bool a0_0, .bool a0_1, .bool a0_2, .bool a0_3] 23 (0, 0)) (by (with_reducible repeat (first | refine blk_drewN ?_ _ | refine blk_drew ?_ | refine blk_alloc ?_ _)); exact BK105.out) hb); have n1_ := Aside0.mk (below_step (by repeat (first | (with_reducible first | exact HB.out | apply below_alloc | apply pw_below_drewN | apply below_drew1 | refine below_set ?_ GE105.out) | exact HB.out)) hb); clear BK105; clear HB; have BK105 := n0_; have HB := n1_; clear n0_ n1_; (try clear hb); (try clear hb2); (try clear hk); (try clear hi)) | ((with_reducible refine gate_callee (f := 26) rfl ?_); refine goesL_ (some 14) rfl rfl Try.func26 (by kernel_rfl) rfl #[.agg #[.bool t111, .bool t112, .bool t113, .bool t114], .int .i64 a1] rfl (by (try simp only [List.map_toArray, List.map_cons, List.map_nil]); first | done | rfl | (simp only [List.length_drop, List.length_take]; rfl)) ?_; (with_reducible refine (impl_BayMay.calls t111 t112 t113 t114 a1 t115 _ A6.out).mono ?_); rintro e w14 ⟨rfl, hb⟩; refine ⟨_, rfl, ?_⟩; have n0_ := Aside0.mk (blk_below (g := gb105) (o := .cells #[.bool a0_0, .bool a0_1, .bool a0_2, .bool a0_3] 23 (0, 0)) (by (with_reducible repeat (first | refine blk_drewN ?_ _ | refine blk_drew ?_ | refine blk_alloc ?_ _)); exact BK105.out) hb); have n1_ := Aside0.mk (below_step (by repeat (first | (with_reducible first | exact HB.out | apply below_alloc | apply pw_below_drewN | apply below_drew1 | refine below_set ?_ GE105.out) | exact HB.out)) hb); clear BK105; clear HB; have BK105 := n0_; have HB := n1_; clear n0_ n1_; (try clear hb); (try clear hb2); (try clear hk); (try clear hi)))
    go_ret
    exact ⟨by first | rfl | (simp [errW_none, errW_some] <;> rfl) | (simp [*, errW_none, errW_some] <;> rfl), by repeat (first | (with_reducible first | exact HB.out | apply below_alloc | apply pw_below_drewN | apply below_drew1 | refine below_set ?_ GE105.out) | exact HB.out)⟩
  · rw [if_neg c7] at H
    have c7b0 : (t115 != t110) = false := by simpa using c7
    (try (have c7b1 : decide (t115 = t110) = true := by simpa using c7))
    (try (have c7b2 : (t115 == t110) = true := by simpa using c7))
    clear c7
    obtain rfl := Option.some.inj H
    go_enter Try.func7, Try.ntmps7
    go_wp2_with (first | ((with_reducible refine gate_dst (N := 2) rfl ?_); refine box_event ?hg (N := 2) ?hd (cs := #[.bool a0_0, .bool a0_1, .bool a0_2, .bool a0_3]) (t := 23) ?hr ?_; (case hd => rfl); (case hg => rfl); (case hr => first | (go_simp; done) | (go_simp; rfl)); intro gb105 hg w15 hbox hb; have n0_ := Aside0.mk (below_step (by repeat (first | (with_reducible first | exact HB.out | apply below_alloc | apply pw_below_drewN | apply below_drew1) | exact HB.out)) hb); have n1_ := Aside0.mk (hbox); have n2_ := Aside0.mk ((by rw [hg]; exact (below_size (by repeat (first | (with_reducible first | exact HB.out | apply below_alloc | apply pw_below_drewN | apply below_drew1) | exact HB.out))) : w.heap.size ≤ gb105)); have n3_ := Aside0.mk ((by rw [hg]; exact (below_size (by repeat (first | (with_reducible first | exact HB.out | apply below_alloc | apply pw_below_drewN | apply below_drew1) | exact HB.out))) : w.heap.size ≤ gb105)); clear HB; have HB := n0_; have BK105 := n1_; have GW105 := n2_; have GE105 := n3_; clear n0_ n1_ n2_ n3_; clear hb hbox hg; have hcz16_0 : w15.cell? ⟨gb105, 0, none⟩ = some (.bool a0_0) := (blk_cell BK105.out 0).trans rfl; have hcz16_1 : w15.cell? ⟨gb105, 1, none⟩ = some (.bool a0_1) := (blk_cell BK105.out 1).trans rfl; have hcz16_2 : w15.cell? ⟨gb105, 2, none⟩ = some (.bool a0_2) := (blk_cell BK105.out 2).trans rfl; have hcz16_3 : w15.cell? ⟨gb105, 3, none⟩ = some (.bool a0_3) := (blk_cell BK105.out 3).trans rfl; have hfz16_0 := blk_frozen BK105.out 0; have hfz16_1 := blk_frozen BK105.out 1; have hfz16_2 := blk_frozen BK105.out 2; have hfz16_3 := blk_frozen BK105.out 3) | ((with_reducible refine gate_callee (f := 16) rfl ?_); refine goesL_ (some 8) rfl rfl Try.func16 (by kernel_rfl) rfl #[.agg #[.bool a0_0, .bool a0_1, .bool a0_2, .bool a0_3]] rfl (by (try simp only [List.map_toArray, List.map_cons, List.map_nil]); first | done | rfl | (simp only [List.length_drop, List.length_take]; rfl)) ?_; (with_reducible refine (laws_toBay.calls a0_0 a0_1 a0_2 a0_3 t106 t107 t108 t109 _ A3.out).mono ?_); rintro e w17 ⟨rfl, hb⟩; refine ⟨_, rfl, ?_⟩; have n0_ := Aside0.mk (blk_below (g := gb105) (o := .cells #[.bool a0_0, .bool a0_1, .bool a0_2, .bool a0_3] 23 (0, 0)) (by (with_reducible repeat (first | refine blk_drewN ?_ _ | refine blk_drew ?_ | refine blk_alloc ?_ _)); exact BK105.out) hb); have n1_ := Aside0.mk (below_step (by repeat (first | (with_reducible first | exact HB.out | apply below_alloc | apply pw_below_drewN | apply below_drew1 | refine below_set ?_ GE105.out) | exact HB.out)) hb); clear BK105; clear HB; have BK105 := n0_; have HB := n1_; clear n0_ n1_; (try clear hb); (try clear hb2); (try clear hk); (try clear hi)) | ((with_reducible refine gate_callee (f := 25) rfl ?_); refine goesL_ (some 10) rfl rfl Try.func25 (by kernel_rfl) rfl #[.agg #[.bool t106, .bool t107, .bool t108, .bool t109], .int .i64 a1] rfl (by (try simp only [List.map_toArray, List.map_cons, List.map_nil]); first | done | rfl | (simp only [List.length_drop, List.length_take]; rfl)) ?_; (with_reducible refine (spec_BayMay.calls t106 t107 t108 t109 a1 t110 _ A4.out).mono ?_); rintro e w18 ⟨rfl, hb⟩; refine ⟨_, rfl, ?_⟩; have n0_ := Aside0.mk (blk_below (g := gb105) (o := .cells #[.bool a0_0, .bool a0_1, .bool a0_2, .bool a0_3] 23 (0, 0)) (by (with_reducible repeat (first | refine blk_drewN ?_ _ | refine blk_drew ?_ | refine blk_alloc ?_ _)); exact BK105.out) hb); have n1_ := Aside0.mk (below_step (by repeat (first | (with_reducible first | exact HB.out | apply below_alloc | apply pw_below_drewN | apply below_drew1 | refine below_set ?_ GE105.out) | exact HB.out)) hb); clear BK105; clear HB; have BK105 := n0_; have HB := n1_; clear n0_ n1_; (try clear hb); (try clear hb2); (try clear hk); (try clear hi); have hcz19_0 : w18.cell? ⟨gb105, 0, none⟩ = some (.bool a0_0) := (blk_cell BK105.out 0).trans rfl; have hcz19_1 : w18.cell? ⟨gb105, 1, none⟩ = some (.bool a0_1) := (blk_cell BK105.out 1).trans rfl; have hcz19_2 : w18.cell? ⟨gb105, 2, none⟩ = some (.bool a0_2) := (blk_cell BK105.out 2).trans rfl; have hcz19_3 : w18.cell? ⟨gb105, 3, none⟩ = some (.bool a0_3) := (blk_cell BK105.out 3).trans rfl; have hfz19_0 := blk_frozen BK105.out 0; have hfz19_1 := blk_frozen BK105.out 1; have hfz19_2 := blk_frozen BK105.out 2; have hfz19_3 := blk_frozen BK105.out 3) | ((with_reducible refine gate_callee (f := 16) rfl ?_); refine goesL_ (some 12) rfl rfl Try.func16 (by kernel_rfl) rfl #[.agg #[.bool a0_0, .bool a0_1, .bool a0_2, .bool a0_3]] rfl (by (try simp only [List.map_toArray, List.map_cons, List.map_nil]); first | done | rfl | (simp only [List.length_drop, List.length_take]; rfl)) ?_; (with_reducible refine (laws_toBay.calls a0_0 a0_1 a0_2 a0_3 t111 t112 t113 t114 _ A5.out).mono ?_); rintro e w20 ⟨rfl, hb⟩; refine ⟨_, rfl, ?_⟩; have n0_ := Aside0.mk (blk_below (g := gb105) (o := .cells #[.bool a0_0, .bool a0_1, .bool a0_2, .bool a0_3] 23 (0, 0)) (by (with_reducible repeat (first | refine blk_drewN ?_ _ | refine blk_drew ?_ | refine blk_alloc ?_ _)); exact BK105.out) hb); have n1_ := Aside0.mk (below_step (by repeat (first | (with_reducible first | exact HB.out | apply below_alloc | apply pw_below_drewN | apply below_drew1 | refine below_set ?_ GE105.out) | exact HB.out)) hb); clear BK105; clear HB; have BK105 := n0_; have HB := n1_; clear n0_ n1_; (try clear hb); (try clear hb2); (try clear hk); (try clear hi)) | ((with_reducible refine gate_callee (f := 26) rfl ?_); refine goesL_ (some 14) rfl rfl Try.func26 (by kernel_rfl) rfl #[.agg #[.bool t111, .bool t112, .bool t113, .bool t114], .int .i64 a1] rfl (by (try simp only [List.map_toArray, List.map_cons, List.map_nil]); first | done | rfl | (simp only [List.length_drop, List.length_take]; rfl)) ?_; (with_reducible refine (impl_BayMay.calls t111 t112 t113 t114 a1 t115 _ A6.out).mono ?_); rintro e w21 ⟨rfl, hb⟩; refine ⟨_, rfl, ?_⟩; have n0_ := Aside0.mk (blk_below (g := gb105) (o := .cells #[.bool a0_0, .bool a0_1, .bool a0_2, .bool a0_3] 23 (0, 0)) (by (with_reducible repeat (first | refine blk_drewN ?_ _ | refine blk_drew ?_ | refine blk_alloc ?_ _)); exact BK105.out) hb); have n1_ := Aside0.mk (below_step (by repeat (first | (with_reducible first | exact HB.out | apply below_alloc | apply pw_below_drewN | apply below_drew1 | refine below_set ?_ GE105.out) | exact HB.out)) hb); clear BK105; clear HB; have BK105 := n0_; have HB := n1_; clear n0_ n1_; (try clear hb); (try clear hb2); (try clear hk); (try clear hi)))
    go_ret
    exact ⟨by first | rfl | (simp [errW_none, errW_some] <;> rfl) | (simp [*, errW_none, errW_some] <;> rfl), by repeat (first | (with_reducible first | exact HB.out | apply below_alloc | apply pw_below_drewN | apply below_drew1 | refine below_set ?_ GE105.out) | exact HB.out)⟩

/-! ### spec_l9Set: function 70 -/
def spec_l9Set.f (a0_0 : Bool) (a0_1 : Bool) (a0_2 : Bool) (a0_3 : Bool) (a1 : Int) (a2 : Bool) : Option (Bool × Bool × Bool × Bool) := if a1 = 0 then (some (a2, a0_1, a0_2, a0_3)) else (if a1 = 1 then (some (a0_0, a2, a0_2, a0_3)) else (if a1 = 2 then (some (a0_0, a0_1, a2, a0_3)) else (some (a0_0, a0_1, a0_2, a2))))
set_option maxHeartbeats 8000000 in
set_option maxRecDepth 100000 in
theorem spec_l9Set.calls (a0_0 : Bool) (a0_1 : Bool) (a0_2 : Bool) (a0_3 : Bool) (a1 : Int) (a2 : Bool) (r1 : Bool) (r2 : Bool) (r3 : Bool) (r4 : Bool) (w : World) (h : spec_l9Set.f a0_0 a0_1 a0_2 a0_3 a1 a2 = some (r1, r2, r3, r4)) :
    Calls Try.prog 70 #[.agg #[.bool a0_0, .bool a0_1, .bool a0_2, .bool a0_3], .int .i64 a1, .bool a2] w fun e w' => e = .returned (.agg #[.bool r1, .bool r2, .bool r3, .bool r4]) ∧ Below w.heap.size w w' := by
  have hu25 := Try.underlying25
  have HB := Aside0.mk (Below.refl w.heap.size w)
  have H : (if a1 = 0 then (some (a2, a0_1, a0_2, a0_3)) else (if a1 = 1 then (some (a0_0, a2, a0_2, a0_3)) else (if a1 = 2 then (some (a0_0, a0_1, a2, a0_3)) else (some (a0_0, a0_1, a0_2, a2))))) = some (r1, r2, r3, r4) := h
  clear h
  by_cases c4 : a1 = 0
  · rw [if_pos c4] at H
    have c4b0 : (a1 == 0) = true := beq_iff_eq.mpr c4
    have c4b1 : (a1 != 0) = false := bne_eq_false_iff_eq.mpr c4
    clear c4
    simp only [Option.some.injEq, Prod.mk.injEq] at H
    obtain ⟨rfl, rfl, rfl, rfl⟩ := H
    go_enter Try.func70, Try.ntmps70
    go_wp2_with (first | ((with_reducible refine gate_dst (N := 3) rfl ?_); refine box_event ?hg (N := 3) ?hd (cs := #[.bool a0_0, .bool a0_1, .bool a0_2, .bool a0_3]) (t := 25) ?hr ?_; (case hd => rfl); (case hg => rfl); (case hr => first | (go_simp; done) | (go_simp; rfl)); intro gb116 hg w5 hbox hb; have n0_ := Aside0.mk (below_step (by repeat (first | (with_reducible first | exact HB.out | apply below_alloc | apply pw_below_drewN | apply below_drew1) | exact HB.out)) hb); have n1_ := Aside0.mk (hbox); have n2_ := Aside0.mk ((by rw [hg]; exact (below_size (by repeat (first | (with_reducible first | exact HB.out | apply below_alloc | apply pw_below_drewN | apply below_drew1) | exact HB.out))) : w.heap.size ≤ gb116)); have n3_ := Aside0.mk ((by rw [hg]; exact (below_size (by repeat (first | (with_reducible first | exact HB.out | apply below_alloc | apply pw_below_drewN | apply below_drew1) | exact HB.out))) : w.heap.size ≤ gb116)); clear HB; have HB := n0_; have BK116 := n1_; have GW116 := n2_; have GE116 := n3_; clear n0_ n1_ n2_ n3_; clear hb hbox hg) | ((with_reducible refine gate_dst (N := 6) rfl ?_); refine box_event ?hg (N := 6) ?hd (cs := #[.bool false, .bool false, .bool false, .bool false]) (t := 25) ?hr ?_; (case hd => rfl); (case hg => rfl); (case hr => first | (go_simp; done) | (go_simp; rfl)); intro gb117 hg w6 hbox hb; have n0_ := Aside0.mk (blk_below (g := gb116) (o := .cells #[.bool a0_0, .bool a0_1, .bool a0_2, .bool a0_3] 25 (0, 0)) (by (with_reducible repeat (first | refine blk_drewN ?_ _ | refine blk_drew ?_ | refine blk_alloc ?_ _)); exact BK116.out) hb); have n1_ := Aside0.mk (below_step (by repeat (first | (with_reducible first | exact HB.out | apply below_alloc | apply pw_below_drewN | apply below_drew1 | refine below_set ?_ GE116.out) | exact HB.out)) hb); have n2_ := Aside0.mk (hbox); have n3_ := Aside0.mk ((by rw [hg]; exact (below_size (by repeat (first | (with_reducible first | exact HB.out | apply below_alloc | apply pw_below_drewN | apply below_drew1 | refine below_set ?_ GE116.out) | exact HB.out))) : w.heap.size ≤ gb117)); have n4_ := Aside0.mk ((by rw [hg]; exact (below_size (by repeat (first | (with_reducible first | exact HB.out | apply below_alloc | apply pw_below_drewN | apply below_drew1 | refine below_set ?_ GE116.out) | exact HB.out))) : w.heap.size ≤ gb117)); have n5_ := Aside0.mk ((by rw [hg]; exact Nat.ne_of_lt (blk_lt (g := gb116) (o := .cells #[.bool a0_0, .bool a0_1, .bool a0_2, .bool a0_3] 25 (0, 0)) (by (with_reducible repeat (first | refine blk_drewN ?_ _ | refine blk_drew ?_ | refine blk_alloc ?_ _)); exact BK116.out)) : gb116 ≠ gb117)); have n6_ := Aside0.mk ((by rw [hg]; exact Nat.ne_of_gt (blk_lt (g := gb116) (o := .cells #[.bool a0_0, .bool a0_1, .bool a0_2, .bool a0_3] 25 (0, 0)) (by (with_reducible repeat (first | refine blk_drewN ?_ _ | refine blk_drew ?_ | refine blk_alloc ?_ _)); exact BK116.out)) : gb117 ≠ gb116)); clear BK116; clear HB; have BK116 := n0_; have HB := n1_; have BK117 := n2_; have GW117 := n3_; have GE117 := n4_; have NB116_117 := n5_; have NB117_116 := n6_; clear n0_ n1_ n2_ n3_ n4_ n5_ n6_; clear hb hbox hg; have hnb7 := NB116_117.out; have hnc7 := NB117_116.out; have hcz8_0 : w6.cell? ⟨gb116, 0, none⟩ = some (.bool a0_0) := (blk_cell BK116.out 0).trans rfl; have hcz8_1 : w6.cell? ⟨gb116, 1, none⟩ = some (.bool a0_1) := (blk_cell BK116.out 1).trans rfl; have hcz8_2 : w6.cell? ⟨gb116, 2, none⟩ = some (.bool a0_2) := (blk_cell BK116.out 2).trans rfl; have hcz8_3 : w6.cell? ⟨gb116, 3, none⟩ = some (.bool a0_3) := (blk_cell BK116.out 3).trans rfl; have hfz8_0 := blk_frozen BK116.out 0; have hfz8_1 := blk_frozen BK116.out 1; have hfz8_2 := blk_frozen BK116.out 2; have hfz8_3 := blk_frozen BK116.out 3; have hcz9_0 : w6.cell? ⟨gb117, 0, none⟩ = some (.bool false) := (blk_cell BK117.out 0).trans rfl; have hcz9_1 : w6.cell? ⟨gb117, 1, none⟩ = some (.bool false) := (blk_cell BK117.out 1).trans rfl; have hcz9_2 : w6.cell? ⟨gb117, 2, none⟩ = some (.bool false) := (blk_cell BK117.out 2).trans rfl; have hcz9_3 : w6.cell? ⟨gb117, 3, none⟩ = some (.bool false) := (blk_cell BK117.out 3).trans rfl; have hfz9_0 := blk_frozen BK117.out 0; have hfz9_1 := blk_frozen BK117.out 1; have hfz9_2 := blk_frozen BK117.out 2; have hfz9_3 := blk_frozen BK117.out 3))
    refine bodyPost_ret (results_cell_row rfl _ _ gb117 25 #[.bool a2, .bool a0_1, .bool a0_2, .bool a0_3] (0, 0) _ rfl (by (with_reducible repeat (first | refine blk_drewN ?_ _ | refine blk_drew ?_ | refine blk_alloc ?_ _)); refine blk_put (cs := #[.bool a2, .bool a0_1, .bool a0_2, .bool false]) ?_ 3 _ rfl; (with_reducible repeat (first | refine blk_drewN ?_ _ | refine blk_drew ?_ | refine blk_alloc ?_ _)); refine blk_put (cs := #[.bool a2, .bool a0_1, .bool false, .bool false]) ?_ 2 _ rfl; (with_reducible repeat (first | refine blk_drewN ?_ _ | refine blk_drew ?_ | refine blk_alloc ?_ _)); refine blk_put (cs := #[.bool a2, .bool false, .bool false, .bool false]) ?_ 1 _ rfl; (with_reducible repeat (first | refine blk_drewN ?_ _ | refine blk_drew ?_ | refine blk_alloc ?_ _)); refine blk_put (cs := #[.bool false, .bool false, .bool false, .bool false]) ?_ 0 _ rfl; (with_reducible repeat (first | refine blk_drewN ?_ _ | refine blk_drew ?_ | refine blk_alloc ?_ _)); refine blk_far ?_ NB117_116.out _; (with_reducible repeat (first | refine blk_drewN ?_ _ | refine blk_drew ?_ | refine blk_alloc ?_ _)); exact BK117.out) Try.underlying25 rfl (by kernel_rfl)) rfl ?_
    exact ⟨by first | rfl | (simp [errW_none, errW_some] <;> rfl) | (simp [*, errW_none, errW_some] <;> rfl), by repeat (first | (with_reducible first | exact HB.out | apply below_alloc | apply pw_below_drewN | apply below_drew1 | refine below_set ?_ GE116.out | refine below_set ?_ GE117.out) | exact HB.out)⟩
  · rw [if_neg c4] at H
    have c4b0 : (a1 == 0) = false := beq_eq_false_iff_ne.mpr c4
    have c4b1 : (a1 != 0) = true := bne_iff_ne.mpr c4
    by_cases c10 : a1 = 1
    · rw [if_pos c10] at H
      have c10b0 : (a1 == 1) = true := beq_iff_eq.mpr c10
      have c10b1 : (a1 != 1) = false := bne_eq_false_iff_eq.mpr c10
      clear c10
      simp only [Option.some.injEq, Prod.mk.injEq] at H
      obtain ⟨rfl, rfl, rfl, rfl⟩ := H
      go_enter Try.func70, Try.ntmps70
      go_wp2_with (first | ((with_reducible refine gate_dst (N := 3) rfl ?_); refine box_event ?hg (N := 3) ?hd (cs := #[.bool a0_0, .bool a0_1, .bool a0_2, .bool a0_3]) (t := 25) ?hr ?_; (case hd => rfl); (case hg => rfl); (case hr => first | (go_simp; done) | (go_simp; rfl)); intro gb116 hg w11 hbox hb; have n0_ := Aside0.mk (below_step (by repeat (first | (with_reducible first | exact HB.out | apply below_alloc | apply pw_below_drewN | apply below_drew1) | exact HB.out)) hb); have n1_ := Aside0.mk (hbox); have n2_ := Aside0.mk ((by rw [hg]; exact (below_size (by repeat (first | (with_reducible first | exact HB.out | apply below_alloc | apply pw_below_drewN | apply below_drew1) | exact HB.out))) : w.heap.size ≤ gb116)); have n3_ := Aside0.mk ((by rw [hg]; exact (below_size (by repeat (first | (with_reducible first | exact HB.out | apply below_alloc | apply pw_below_drewN | apply below_drew1) | exact HB.out))) : w.heap.size ≤ gb116)); clear HB; have HB := n0_; have BK116 := n1_; have GW116 := n2_; have GE116 := n3_; clear n0_ n1_ n2_ n3_; clear hb hbox hg) | ((with_reducible refine gate_dst (N := 6) rfl ?_); refine box_event ?hg (N := 6) ?hd (cs := #[.bool false, .bool false, .bool false, .bool false]) (t := 25) ?hr ?_; (case hd => rfl); (case hg => rfl); (case hr => first | (go_simp; done) | (go_simp; rfl)); intro gb117 hg w12 hbox hb; have n0_ := Aside0.mk (blk_below (g := gb116) (o := .cells #[.bool a0_0, .bool a0_1, .bool a0_2, .bool a0_3] 25 (0, 0)) (by (with_reducible repeat (first | refine blk_drewN ?_ _ | refine blk_drew ?_ | refine blk_alloc ?_ _)); exact BK116.out) hb); have n1_ := Aside0.mk (below_step (by repeat (first | (with_reducible first | exact HB.out | apply below_alloc | apply pw_below_drewN | apply below_drew1 | refine below_set ?_ GE116.out) | exact HB.out)) hb); have n2_ := Aside0.mk (hbox); have n3_ := Aside0.mk ((by rw [hg]; exact (below_size (by repeat (first | (with_reducible first | exact HB.out | apply below_alloc | apply pw_below_drewN | apply below_drew1 | refine below_set ?_ GE116.out) | exact HB.out))) : w.heap.size ≤ gb117)); have n4_ := Aside0.mk ((by rw [hg]; exact (below_size (by repeat (first | (with_reducible first | exact HB.out | apply below_alloc | apply pw_below_drewN | apply below_drew1 | refine below_set ?_ GE116.out) | exact HB.out))) : w.heap.size ≤ gb117)); have n5_ := Aside0.mk ((by rw [hg]; exact Nat.ne_of_lt (blk_lt (g := gb116) (o := .cells #[.bool a0_0, .bool a0_1, .bool a0_2, .bool a0_3] 25 (0, 0)) (by (with_reducible repeat (first | refine blk_drewN ?_ _ | refine blk_drew ?_ | refine blk_alloc ?_ _)); exact BK116.out)) : gb116 ≠ gb117)); have n6_ := Aside0.mk ((by rw [hg]; exact Nat.ne_of_gt (blk_lt (g := gb116) (o := .cells #[.bool a0_0, .bool a0_1, .bool a0_2, .bool a0_3] 25 (0, 0)) (by (with_reducible repeat (first | refine blk_drewN ?_ _ | refine blk_drew ?_ | refine blk_alloc ?_ _)); exact BK116.out)) : gb117 ≠ gb116)); clear BK116; clear HB; have BK116 := n0_; have HB := n1_; have BK117 := n2_; have GW117 := n3_; have GE117 := n4_; have NB116_117 := n5_; have NB117_116 := n6_; clear n0_ n1_ n2_ n3_ n4_ n5_ n6_; clear hb hbox hg; have hnb13 := NB116_117.out; have hnc13 := NB117_116.out; have hcz14_0 : w12.cell? ⟨gb116, 0, none⟩ = some (.bool a0_0) := (blk_cell BK116.out 0).trans rfl; have hcz14_1 : w12.cell? ⟨gb116, 1, none⟩ = some (.bool a0_1) := (blk_cell BK116.out 1).trans rfl; have hcz14_2 : w12.cell? ⟨gb116, 2, none⟩ = some (.bool a0_2) := (blk_cell BK116.out 2).trans rfl; have hcz14_3 : w12.cell? ⟨gb116, 3, none⟩ = some (.bool a0_3) := (blk_cell BK116.out 3).trans rfl; have hfz14_0 := blk_frozen BK116.out 0; have hfz14_1 := blk_frozen BK116.out 1; have hfz14_2 := blk_frozen BK116.out 2; have hfz14_3 := blk_frozen BK116.out 3; have hcz15_0 : w12.cell? ⟨gb117, 0, none⟩ = some (.bool false) := (blk_cell BK117.out 0).trans rfl; have hcz15_1 : w12.cell? ⟨gb117, 1, none⟩ = some (.bool false) := (blk_cell BK117.out 1).trans rfl; have hcz15_2 : w12.cell? ⟨gb117, 2, none⟩ = some (.bool false) := (blk_cell BK117.out 2).trans rfl; have hcz15_3 : w12.cell? ⟨gb117, 3, none⟩ = some (.bool false) := (blk_cell BK117.out 3).trans rfl; have hfz15_0 := blk_frozen BK117.out 0; have hfz15_1 := blk_frozen BK117.out 1; have hfz15_2 := blk_frozen BK117.out 2; have hfz15_3 := blk_frozen BK117.out 3))
      refine bodyPost_ret (results_cell_row rfl _ _ gb117 25 #[.bool a0_0, .bool a2, .bool a0_2, .bool a0_3] (0, 0) _ rfl (by (with_reducible repeat (first | refine blk_drewN ?_ _ | refine blk_drew ?_ | refine blk_alloc ?_ _)); refine blk_put (cs := #[.bool a0_0, .bool a2, .bool a0_2, .bool false]) ?_ 3 _ rfl; (with_reducible repeat (first | refine blk_drewN ?_ _ | refine blk_drew ?_ | refine blk_alloc ?_ _)); refine blk_put (cs := #[.bool a0_0, .bool a2, .bool false, .bool false]) ?_ 2 _ rfl; (with_reducible repeat (first | refine blk_drewN ?_ _ | refine blk_drew ?_ | refine blk_alloc ?_ _)); refine blk_put (cs := #[.bool a0_0, .bool false, .bool false, .bool false]) ?_ 1 _ rfl; (with_reducible repeat (first | refine blk_drewN ?_ _ | refine blk_drew ?_ | refine blk_alloc ?_ _)); refine blk_put (cs := #[.bool false, .bool false, .bool false, .bool false]) ?_ 0 _ rfl; (with_reducible repeat (first | refine blk_drewN ?_ _ | refine blk_drew ?_ | refine blk_alloc ?_ _)); refine blk_far ?_ NB117_116.out _; (with_reducible repeat (first | refine blk_drewN ?_ _ | refine blk_drew ?_ | refine blk_alloc ?_ _)); exact BK117.out) Try.underlying25 rfl (by kernel_rfl)) rfl ?_
      exact ⟨by first | rfl | (simp [errW_none, errW_some] <;> rfl) | (simp [*, errW_none, errW_some] <;> rfl), by repeat (first | (with_reducible first | exact HB.out | apply below_alloc | apply pw_below_drewN | apply below_drew1 | refine below_set ?_ GE116.out | refine below_set ?_ GE117.out) | exact HB.out)⟩
    · rw [if_neg c10] at H
      have c10b0 : (a1 == 1) = false := beq_eq_false_iff_ne.mpr c10
      have c10b1 : (a1 != 1) = true := bne_iff_ne.mpr c10
      by_cases c16 : a1 = 2
      · rw [if_pos c16] at H
        have c16b0 : (a1 == 2) = true := beq_iff_eq.mpr c16
        have c16b1 : (a1 != 2) = false := bne_eq_false_iff_eq.mpr c16
        clear c16
        simp only [Option.some.injEq, Prod.mk.injEq] at H
        obtain ⟨rfl, rfl, rfl, rfl⟩ := H
        go_enter Try.func70, Try.ntmps70
        go_wp2_with (first | ((with_reducible refine gate_dst (N := 3) rfl ?_); refine box_event ?hg (N := 3) ?hd (cs := #[.bool a0_0, .bool a0_1, .bool a0_2, .bool a0_3]) (t := 25) ?hr ?_; (case hd => rfl); (case hg => rfl); (case hr => first | (go_simp; done) | (go_simp; rfl)); intro gb116 hg w17 hbox hb; have n0_ := Aside0.mk (below_step (by repeat (first | (with_reducible first | exact HB.out | apply below_alloc | apply pw_below_drewN | apply below_drew1) | exact HB.out)) hb); have n1_ := Aside0.mk (hbox); have n2_ := Aside0.mk ((by rw [hg]; exact (below_size (by repeat (first | (with_reducible first | exact HB.out | apply below_alloc | apply pw_below_drewN | apply below_drew1) | exact HB.out))) : w.heap.size ≤ gb116)); have n3_ := Aside0.mk ((by rw [hg]; exact (below_size (by repeat (first | (with_reducible first | exact HB.out | apply below_alloc | apply pw_below_drewN | apply below_drew1) | exact HB.out))) : w.heap.size ≤ gb116)); clear HB; have HB := n0_; have BK116 := n1_; have GW116 := n2_; have GE116 := n3_; clear n0_ n1_ n2_ n3_; clear hb hbox hg) | ((with_reducible refine gate_dst (N := 6) rfl ?_); refine box_event ?hg (N := 6) ?hd (cs := #[.bool false, .bool false, .bool false, .bool false]) (t := 25) ?hr ?_; (case hd => rfl); (case hg => rfl); (case hr => first | (go_simp; done) | (go_simp; rfl)); intro gb117 hg w18 hbox hb; have n0_ := Aside0.mk (blk_below (g := gb116) (o := .cells #[.bool a0_0, .bool a0_1, .bool a0_2, .bool a0_3] 25 (0, 0)) (by (with_reducible repeat (first | refine blk_drewN ?_ _ | refine blk_drew ?_ | refine blk_alloc ?_ _)); exact BK116.out) hb); have n1_ := Aside0.mk (below_step (by repeat (first | (with_reducible first | exact HB.out | apply below_alloc | apply pw_below_drewN | apply below_drew1 | refine below_set ?_ GE116.out) | exact HB.out)) hb); have n2_ := Aside0.mk (hbox); have n3_ := Aside0.mk ((by rw [hg]; exact (below_size (by repeat (first | (with_reducible first | exact HB.out | apply below_alloc | apply pw_below_drewN | apply below_drew1 | refine below_set ?_ GE116.out) | exact HB.out))) : w.heap.size ≤ gb117)); have n4_ := Aside0.mk ((by rw [hg]; exact (below_size (by repeat (first | (with_reducible first | exact HB.out | apply below_alloc | apply pw_below_drewN | apply below_drew1 | refine below_set ?_ GE116.out) | exact HB.out))) : w.heap.size ≤ gb117)); have n5_ := Aside0.mk ((by rw [hg]; exact Nat.ne_of_lt (blk_lt (g := gb116) (o := .cells #[.bool a0_0, .bool a0_1, .bool a0_2, .bool a0_3] 25 (0, 0)) (by (with_reducible repeat (first | refine blk_drewN ?_ _ | refine blk_drew ?_ | refine blk_alloc ?_ _)); exact BK116.out)) : gb116 ≠ gb117)); have n6_ := Aside0.mk ((by rw [hg]; exact Nat.ne_of_gt (blk_lt (g := gb116) (o := .cells #[.bool a0_0, .bool a0_1, .bool a0_2, .bool a0_3] 25 (0, 0)) (by (with_reducible repeat (first | refine blk_drewN ?_ _ | refine blk_drew ?_ | refine blk_alloc ?_ _)); exact BK116.out)) : gb117 ≠ gb116)); clear BK116; clear HB; have BK116 := n0_; have HB := n1_; have BK117 := n2_; have GW117 := n3_; have GE117 := n4_; have NB116_117 := n5_; have NB117_116 := n6_; clear n0_ n1_ n2_ n3_ n4_ n5_ n6_; clear hb hbox hg; have hnb19 := NB116_117.out; have hnc19 := NB117_116.out; have hcz20_0 : w18.cell? ⟨gb116, 0, none⟩ = some (.bool a0_0) := (blk_cell BK116.out 0).trans rfl; have hcz20_1 : w18.cell? ⟨gb116, 1, none⟩ = some (.bool a0_1) := (blk_cell BK116.out 1).trans rfl; have hcz20_2 : w18.cell? ⟨gb116, 2, none⟩ = some (.bool a0_2) := (blk_cell BK116.out 2).trans rfl; have hcz20_3 : w18.cell? ⟨gb116, 3, none⟩ = some (.bool a0_3) := (blk_cell BK116.out 3).trans rfl; have hfz20_0 := blk_frozen BK116.out 0; have hfz20_1 := blk_frozen BK116.out 1; have hfz20_2 := blk_frozen BK116.out 2; have hfz20_3 := blk_frozen BK116.out 3; have hcz21_0 : w18.cell? ⟨gb117, 0, none⟩ = some (.bool false) := (blk_cell BK117.out 0).trans rfl; have hcz21_1 : w18.cell? ⟨gb117, 1, none⟩ = some (.bool false) := (blk_cell BK117.out 1).trans rfl; have hcz21_2 : w18.cell? ⟨gb117, 2, none⟩ = some (.bool false) := (blk_cell BK117.out 2).trans rfl; have hcz21_3 : w18.cell? ⟨gb117, 3, none⟩ = some (.bool false) := (blk_cell BK117.out 3).trans rfl; have hfz21_0 := blk_frozen BK117.out 0; have hfz21_1 := blk_frozen BK117.out 1; have hfz21_2 := blk_frozen BK117.out 2; have hfz21_3 := blk_frozen BK117.out 3))
        refine bodyPost_ret (results_cell_row rfl _ _ gb117 25 #[.bool a0_0, .bool a0_1, .bool a2, .bool a0_3] (0, 0) _ rfl (by (with_reducible repeat (first | refine blk_drewN ?_ _ | refine blk_drew ?_ | refine blk_alloc ?_ _)); refine blk_put (cs := #[.bool a0_0, .bool a0_1, .bool a2, .bool false]) ?_ 3 _ rfl; (with_reducible repeat (first | refine blk_drewN ?_ _ | refine blk_drew ?_ | refine blk_alloc ?_ _)); refine blk_put (cs := #[.bool a0_0, .bool a0_1, .bool false, .bool false]) ?_ 2 _ rfl; (with_reducible repeat (first | refine blk_drewN ?_ _ | refine blk_drew ?_ | refine blk_alloc ?_ _)); refine blk_put (cs := #[.bool a0_0, .bool false, .bool false, .bool false]) ?_ 1 _ rfl; (with_reducible repeat (first | refine blk_drewN ?_ _ | refine blk_drew ?_ | refine blk_alloc ?_ _)); refine blk_put (cs := #[.bool false, .bool false, .bool false, .bool false]) ?_ 0 _ rfl; (with_reducible repeat (first | refine blk_drewN ?_ _ | refine blk_drew ?_ | refine blk_alloc ?_ _)); refine blk_far ?_ NB117_116.out _; (with_reducible repeat (first | refine blk_drewN ?_ _ | refine blk_drew ?_ | refine blk_alloc ?_ _)); exact BK117.out) Try.underlying25 rfl (by kernel_rfl)) rfl ?_
        exact ⟨by first | rfl | (simp [errW_none, errW_some] <;> rfl) | (simp [*, errW_none, errW_some] <;> rfl), by repeat (first | (with_reducible first | exact HB.out | apply below_alloc | apply pw_below_drewN | apply below_drew1 | refine below_set ?_ GE116.out | refine below_set ?_ GE117.out) | exact HB.out)⟩
      · rw [if_neg c16] at H
        have c16b0 : (a1 == 2) = false := beq_eq_false_iff_ne.mpr c16
        have c16b1 : (a1 != 2) = true := bne_iff_ne.mpr c16
        simp only [Option.some.injEq, Prod.mk.injEq] at H
        obtain ⟨rfl, rfl, rfl, rfl⟩ := H
        go_enter Try.func70, Try.ntmps70
        go_wp2_with (first | ((with_reducible refine gate_dst (N := 3) rfl ?_); refine box_event ?hg (N := 3) ?hd (cs := #[.bool a0_0, .bool a0_1, .bool a0_2, .bool a0_3]) (t := 25) ?hr ?_; (case hd => rfl); (case hg => rfl); (case hr => first | (go_simp; done) | (go_simp; rfl)); intro gb116 hg w22 hbox hb; have n0_ := Aside0.mk (below_step (by repeat (first | (with_reducible first | exact HB.out | apply below_alloc | apply pw_below_drewN | apply below_drew1) | exact HB.out)) hb); have n1_ := Aside0.mk (hbox); have n2_ := Aside0.mk ((by rw [hg]; exact (below_size (by repeat (first | (with_reducible first | exact HB.out | apply below_alloc | apply pw_below_drewN | apply below_drew1) | exact HB.out))) : w.heap.size ≤ gb116)); have n3_ := Aside0.mk ((by rw [hg]; exact (below_size (by repeat (first | (with_reducible first | exact HB.out | apply below_alloc | apply pw_below_drewN | apply below_drew1) | exact HB.out))) : w.heap.size ≤ gb116)); clear HB; have HB := n0_; have BK116 := n1_; have GW116 := n2_; have GE116 := n3_; clear n0_ n1_ n2_ n3_; clear hb hbox hg) | ((with_reducible refine gate_dst (N := 6) rfl ?_); refine box_event ?hg (N := 6) ?hd (cs := #[.bool false, .bool false, .bool false, .bool false]) (t := 25) ?hr ?_; (case hd => rfl); (case hg => rfl); (case hr => first | (go_simp; done) | (go_simp; rfl)); intro gb117 hg w23 hbox hb; have n0_ := Aside0.mk (blk_below (g := gb116) (o := .cells #[.bool a0_0, .bool a0_1, .bool a0_2, .bool a0_3] 25 (0, 0)) (by (with_reducible repeat (first | refine blk_drewN ?_ _ | refine blk_drew ?_ | refine blk_alloc ?_ _)); exact BK116.out) hb); have n1_ := Aside0.mk (below_step (by repeat (first | (with_reducible first | exact HB.out | apply below_alloc | apply pw_below_drewN | apply below_drew1 | refine below_set ?_ GE116.out) | exact HB.out)) hb); have n2_ := Aside0.mk (hbox); have n3_ := Aside0.mk ((by rw [hg]; exact (below_size (by repeat (first | (with_reducible first | exact HB.out | apply below_alloc | apply pw_below_drewN | apply below_drew1 | refine below_set ?_ GE116.out) | exact HB.out))) : w.heap.size ≤ gb117)); have n4_ := Aside0.mk ((by rw [hg]; exact (below_size (by repeat (first | (with_reducible first | exact HB.out | apply below_alloc | apply pw_below_drewN | apply below_drew1 | refine below_set ?_ GE116.out) | exact HB.out))) : w.heap.size ≤ gb117)); have n5_ := Aside0.mk ((by rw [hg]; exact Nat.ne_of_lt (blk_lt (g := gb116) (o := .cells #[.bool a0_0, .bool a0_1, .bool a0_2, .bool a0_3] 25 (0, 0)) (by (with_reducible repeat (first | refine blk_drewN ?_ _ | refine blk_drew ?_ | refine blk_alloc ?_ _)); exact BK116.out)) : gb116 ≠ gb117)); have n6_ := Aside0.mk ((by rw [hg]; exact Nat.ne_of_gt (blk_lt (g := gb116) (o := .cells #[.bool a0_0, .bool a0_1, .bool a0_2, .bool a0_3] 25 (0, 0)) (by (with_reducible repeat (first | refine blk_drewN ?_ _ | refine blk_drew ?_ | refine blk_alloc ?_ _)); exact BK116.out)) : gb117 ≠ gb116)); clear BK116; clear HB; have BK116 := n0_; have HB := n1_; have BK117 := n2_; have GW117 := n3_; have GE117 := n4_; have NB116_117 := n5_; have NB117_116 := n6_; clear n0_ n1_ n2_ n3_ n4_ n5_ n6_; clear hb hbox hg; have hnb24 := NB116_117.out; have hnc24 := NB117_116.out; have hcz25_0 : w23.cell? ⟨gb116, 0, none⟩ = some (.bool a0_0) := (blk_cell BK116.out 0).trans rfl; have hcz25_1 : w23.cell? ⟨gb116, 1, none⟩ = some (.bool a0_1) := (blk_cell BK116.out 1).trans rfl; have hcz25_2 : w23.cell? ⟨gb116, 2, none⟩ = some (.bool a0_2) := (blk_cell BK116.out 2).trans rfl; have hcz25_3 : w23.cell? ⟨gb116, 3, none⟩ = some (.bool a0_3) := (blk_cell BK116.out 3).trans rfl; have hfz25_0 := blk_frozen BK116.out 0; have hfz25_1 := blk_frozen BK116.out 1; have hfz25_2 := blk_frozen BK116.out 2; have hfz25_3 := blk_frozen BK116.out 3; have hcz26_0 : w23.cell? ⟨gb117, 0, none⟩ = some (.bool false) := (blk_cell BK117.out 0).trans rfl; have hcz26_1 : w23.cell? ⟨gb117, 1, none⟩ = some (.bool false) := (blk_cell BK117.out 1).trans rfl; have hcz26_2 : w23.cell? ⟨gb117, 2, none⟩ = some (.bool false) := (blk_cell BK117.out 2).trans rfl; have hcz26_3 : w23.cell? ⟨gb117, 3, none⟩ = some (.bool false) := (blk_cell BK117.out 3).trans rfl; have hfz26_0 := blk_frozen BK117.out 0; have hfz26_1 := blk_frozen BK117.out 1; have hfz26_2 := blk_frozen BK117.out 2; have hfz26_3 := blk_frozen BK117.out 3))
        refine bodyPost_ret (results_cell_row rfl _ _ gb117 25 #[.bool a0_0, .bool a0_1, .bool a0_2, .bool a2] (0, 0) _ rfl (by (with_reducible repeat (first | refine blk_drewN ?_ _ | refine blk_drew ?_ | refine blk_alloc ?_ _)); refine blk_put (cs := #[.bool a0_0, .bool a0_1, .bool a0_2, .bool false]) ?_ 3 _ rfl; (with_reducible repeat (first | refine blk_drewN ?_ _ | refine blk_drew ?_ | refine blk_alloc ?_ _)); refine blk_put (cs := #[.bool a0_0, .bool a0_1, .bool false, .bool false]) ?_ 2 _ rfl; (with_reducible repeat (first | refine blk_drewN ?_ _ | refine blk_drew ?_ | refine blk_alloc ?_ _)); refine blk_put (cs := #[.bool a0_0, .bool false, .bool false, .bool false]) ?_ 1 _ rfl; (with_reducible repeat (first | refine blk_drewN ?_ _ | refine blk_drew ?_ | refine blk_alloc ?_ _)); refine blk_put (cs := #[.bool false, .bool false, .bool false, .bool false]) ?_ 0 _ rfl; (with_reducible repeat (first | refine blk_drewN ?_ _ | refine blk_drew ?_ | refine blk_alloc ?_ _)); refine blk_far ?_ NB117_116.out _; (with_reducible repeat (first | refine blk_drewN ?_ _ | refine blk_drew ?_ | refine blk_alloc ?_ _)); exact BK117.out) Try.underlying25 rfl (by kernel_rfl)) rfl ?_
        exact ⟨by first | rfl | (simp [errW_none, errW_some] <;> rfl) | (simp [*, errW_none, errW_some] <;> rfl), by repeat (first | (with_reducible first | exact HB.out | apply below_alloc | apply pw_below_drewN | apply below_drew1 | refine below_set ?_ GE116.out | refine below_set ?_ GE117.out) | exact HB.out)⟩

/-! ### spec_BayDo: function 42 -/
def spec_BayDo.f (a0_0 : Bool) (a0_1 : Bool) (a0_2 : Bool) (a0_3 : Bool) (a1 : Int) : Option (Bool × Bool × Bool × Bool × Bool) := (spec_BayMay.f a0_0 a0_1 a0_2 a0_3 a1).bind fun t120 => (if t120 = true then ((spec_l9Set.f a0_0 a0_1 a0_2 a0_3 (wrap64 (Int.tdiv a1 2)) ((Int.tmod a1 2) == 1)).bind fun bt121 => (some (bt121.1, bt121.2.1, bt121.2.2.1, bt121.2.2.2, true))) else (some (a0_0, a0_1, a0_2, a0_3, false)))
set_option maxHeartbeats 8000000 in
set_option maxRecDepth 100000 in
theorem spec_BayDo.calls (a0_0 : Bool) (a0_1 : Bool) (a0_2 : Bool) (a0_3 : Bool) (a1 : Int) (r1 : Bool) (r2 : Bool) (r3 : Bool) (r4 : Bool) (r5 : Bool) (w : World) (h : spec_BayDo.f a0_0 a0_1 a0_2 a0_3 a1 = some (r1, r2, r3, r4, r5)) :
    Calls Try.prog 42 #[.agg #[.bool a0_0, .bool a0_1, .bool a0_2, .bool a0_3], .int .i64 a1] w fun e w' => e = .returned (.tuple #[.agg #[.bool r1, .bool r2, .bool r3, .bool r4], .bool r5]) ∧ Below w.heap.size w w' := by
  have hu25 := Try.underlying25
  have HB := Aside0.mk (Below.refl w.heap.size w)
  have H : ((spec_BayMay.f a0_0 a0_1 a0_2 a0_3 a1).bind fun t120 => (if t120 = true then ((spec_l9Set.f a0_0 a0_1 a0_2 a0_3 (wrap64 (Int.tdiv a1 2)) ((Int.tmod a1 2) == 1)).bind fun bt121 => (some (bt121.1, bt121.2.1, bt121.2.2.1, bt121.2.2.2, true))) else (some (a0_0, a0_1, a0_2, a0_3, false)))) = some (r1, r2, r3, r4, r5) := h
  clear h
  replace H := Option.bind_eq_some_iff.mp H
  obtain ⟨t120, A30, H⟩ := H
  replace H : (if t120 = true then ((spec_l9Set.f a0_0 a0_1 a0_2 a0_3 (wrap64 (Int.tdiv a1 2)) ((Int.tmod a1 2) == 1)).bind fun bt121 => (some (bt121.1, bt121.2.1, bt121.2.2.1, bt121.2.2.2, true))) else (some (a0_0, a0_1, a0_2, a0_3, false))) = some (r1, r2, r3, r4, r5) := H
  have A3 := Aside0.mk A30
  clear A30
  by_cases c4 : t120 = true
  · subst c4
    have H1 : ((spec_l9Set.f a0_0 a0_1 a0_2 a0_3 (wrap64 (Int.tdiv a1 2)) ((Int.tmod a1 2) == 1)).bind fun bt121 => (some (bt121.1, bt121.2.1, bt121.2.2.1, bt121.2.2.2, true))) = some (r1, r2, r3, r4, r5) := by rw [if_pos rfl] at H; exact H
    clear H
    have H := H1
    clear H1
    replace H := Option.bind_eq_some_iff.mp H
    obtain ⟨⟨t121, t122, t123, t124⟩, A50, H⟩ := H
    replace H : (some (t121, t122, t123, t124, true)) = some (r1, r2, r3, r4, r5) := H
    have A5 := Aside0.mk A50
    clear A50
    simp only [Option.some.injEq, Prod.mk.injEq] at H
    obtain ⟨rfl, rfl, rfl, rfl, rfl⟩ := H
    go_enter Try.func42, Try.ntmps42
    go_wp2_with (first | ((with_reducible refine gate_dst (N := 2) rfl ?_); refine box_event ?hg (N := 2) ?hd (cs := #[.bool a0_0, .bool a0_1, .bool a0_2, .bool a0_3]) (t := 25) ?hr ?_; (case hd => rfl); (case hg => rfl); (case hr => first | (go_simp; done) | (go_simp; rfl)); intro gb118 hg w6 hbox hb; have n0_ := Aside0.mk (below_step (by repeat (first | (with_reducible first | exact HB.out | apply below_alloc | apply pw_below_drewN | apply below_drew1) | exact HB.out)) hb); have n1_ := Aside0.mk (hbox); have n2_ := Aside0.mk ((by rw [hg]; exact (below_size (by repeat (first | (with_reducible first | exact HB.out | apply below_alloc | apply pw_below_drewN | apply below_drew1) | exact HB.out))) : w.heap.size ≤ gb118)); have n3_ := Aside0.mk ((by rw [hg]; exact (below_size (by repeat (first | (with_reducible first | exact HB.out | apply below_alloc | apply pw_below_drewN | apply below_drew1) | exact HB.out))) : w.heap.size ≤ gb118)); clear HB; have HB := n0_; have BK118 := n1_; have GW118 := n2_; have GE118 := n3_; clear n0_ n1_ n2_ n3_; clear hb hbox hg) | ((with_reducible refine gate_dst (N := 4) rfl ?_); refine box_event ?hg (N := 4) ?hd (cs := #[.bool false, .bool false, .bool false, .bool false]) (t := 25) ?hr ?_; (case hd => rfl); (case hg => rfl); (case hr => first | (go_simp; done) | (go_simp; rfl)); intro gb119 hg w7 hbox hb; have n0_ := Aside0.mk (blk_below (g := gb118) (o := .cells #[.bool a0_0, .bool a0_1, .bool a0_2, .bool a0_3] 25 (0, 0)) (by (with_reducible repeat (first | refine blk_drewN ?_ _ | refine blk_drew ?_ | refine blk_alloc ?_ _)); exact BK118.out) hb); have n1_ := Aside0.mk (below_step (by repeat (first | (with_reducible first | exact HB.out | apply below_alloc | apply pw_below_drewN | apply below_drew1 | refine below_set ?_ GE118.out) | exact HB.out)) hb); have n2_ := Aside0.mk (hbox); have n3_ := Aside0.mk ((by rw [hg]; exact (below_size (by repeat (first | (with_reducible first | exact HB.out | apply below_alloc | apply pw_below_drewN | apply below_drew1 | refine below_set ?_ GE118.out) | exact HB.out))) : w.heap.size ≤ gb119)); have n4_ := Aside0.mk ((by rw [hg]; exact (below_size (by repeat (first | (with_reducible first | exact HB.out | apply below_alloc | apply pw_below_drewN | apply below_drew1 | refine below_set ?_ GE118.out) | exact HB.out))) : w.heap.size ≤ gb119)); have n5_ := Aside0.mk ((by rw [hg]; exact Nat.ne_of_lt (blk_lt (g := gb118) (o := .cells #[.bool a0_0, .bool a0_1, .bool a0_2, .bool a0_3] 25 (0, 0)) (by (with_reducible repeat (first | refine blk_drewN ?_ _ | refine blk_drew ?_ | refine blk_alloc ?_ _)); exact BK118.out)) : gb118 ≠ gb119)); have n6_ := Aside0.mk ((by rw [hg]; exact Nat.ne_of_gt (blk_lt (g := gb118) (o := .cells #[.bool a0_0, .bool a0_1, .bool a0_2, .bool a0_3] 25 (0, 0)) (by (with_reducible repeat (first | refine blk_drewN ?_ _ | refine blk_drew ?_ | refine blk_alloc ?_ _)); exact BK118.out)) : gb119 ≠ gb118)); clear BK118; clear HB; have BK118 := n0_; have HB := n1_; have BK119 := n2_; have GW119 := n3_; have GE119 := n4_; have NB118_119 := n5_; have NB119_118 := n6_; clear n0_ n1_ n2_ n3_ n4_ n5_ n6_; clear hb hbox hg; have hnb8 := NB118_119.out; have hnc8 := NB119_118.out; have hcz9_0 : w7.cell? ⟨gb118, 0, none⟩ = some (.bool a0_0) := (blk_cell BK118.out 0).trans rfl; have hcz9_1 : w7.cell? ⟨gb118, 1, none⟩ = some (.bool a0_1) := (blk_cell BK118.out 1).trans rfl; have hcz9_2 : w7.cell? ⟨gb118, 2, none⟩ = some (.bool a0_2) := (blk_cell BK118.out 2).trans rfl; have hcz9_3 : w7.cell? ⟨gb118, 3, none⟩ = some (.bool a0_3) := (blk_cell BK118.out 3).trans rfl; have hfz9_0 := blk_frozen BK118.out 0; have hfz9_1 := blk_frozen BK118.out 1; have hfz9_2 := blk_frozen BK118.out 2; have hfz9_3 := blk_frozen BK118.out 3) | ((with_reducible refine gate_callee (f := 25) rfl ?_); refine goesL_ (some 8) rfl rfl Try.func25 (by kernel_rfl) rfl #[.agg #[.bool a0_0, .bool a0_1, .bool a0_2, .bool a0_3], .int .i64 a1] rfl (by (try simp only [List.map_toArray, List.map_cons, List.map_nil]); first | done | rfl | (simp only [List.length_drop, List.length_take]; rfl)) ?_; (with_reducible refine (spec_BayMay.calls a0_0 a0_1 a0_2 a0_3 a1 true _ A3.out).mono ?_); rintro e w10 ⟨rfl, hb⟩; refine ⟨_, rfl, ?_⟩; have n0_ := Aside0.mk (blk_below (g := gb118) (o := .cells #[.bool a0_0, .bool a0_1, .bool a0_2, .bool a0_3] 25 (0, 0)) (by (with_reducible repeat (first | refine blk_drewN ?_ _ | refine blk_drew ?_ | refine blk_alloc ?_ _)); exact BK118.out) hb); have n1_ := Aside0.mk (blk_below (g := gb119) (o := .cells #[.bool false, .bool false, .bool false, .bool false] 25 (0, 0)) (by (with_reducible repeat (first | refine blk_drewN ?_ _ | refine blk_drew ?_ | refine blk_alloc ?_ _)); exact BK119.out) hb); have n2_ := Aside0.mk (below_step (by repeat (first | (with_reducible first | exact HB.out | apply below_alloc | apply pw_below_drewN | apply below_drew1 | refine below_set ?_ GE118.out | refine below_set ?_ GE119.out) | exact HB.out)) hb); clear BK118; clear BK119; clear HB; have BK118 := n0_; have BK119 := n1_; have HB := n2_; clear n0_ n1_ n2_; (try clear hb); (try clear hb2); (try clear hk); (try clear hi); have hcz11_0 : w10.cell? ⟨gb118, 0, none⟩ = some (.bool a0_0) := (blk_cell BK118.out 0).trans rfl; have hcz11_1 : w10.cell? ⟨gb118, 1, none⟩ = some (.bool a0_1) := (blk_cell BK118.out 1).trans rfl; have hcz11_2 : w10.cell? ⟨gb118, 2, none⟩ = some (.bool a0_2) := (blk_cell BK118.out 2).trans rfl; have hcz11_3 : w10.cell? ⟨gb118, 3, none⟩ = some (.bool a0_3) := (blk_cell BK118.out 3).trans rfl; have hfz11_0 := blk_frozen BK118.out 0; have hfz11_1 := blk_frozen BK118.out 1; have hfz11_2 := blk_frozen BK118.out 2; have hfz11_3 := blk_frozen BK118.out 3) | ((with_reducible refine gate_callee (f := 70) rfl ?_); refine goesL_ (some 17) rfl rfl Try.func70 (by kernel_rfl) rfl #[.agg #[.bool a0_0, .bool a0_1, .bool a0_2, .bool a0_3], .int .i64 (wrap64 (Int.tdiv a1 2)), .bool ((Int.tmod a1 2) == 1)] rfl (by (try simp only [List.map_toArray, List.map_cons, List.map_nil]); first | done | rfl | (simp only [List.length_drop, List.length_take]; rfl)) ?_; (with_reducible refine (spec_l9Set.calls a0_0 a0_1 a0_2 a0_3 (wrap64 (Int.tdiv a1 2)) ((Int.tmod a1 2) == 1) t121 t122 t123 t124 _ A5.out).mono ?_); rintro e w12 ⟨rfl, hb⟩; refine ⟨_, rfl, ?_⟩; have n0_ := Aside0.mk (blk_below (g := gb118) (o := .cells #[.bool a0_0, .bool a0_1, .bool a0_2, .bool a0_3] 25 (0, 0)) (by (with_reducible repeat (first | refine blk_drewN ?_ _ | refine blk_drew ?_ | refine blk_alloc ?_ _)); exact BK118.out) hb); have n1_ := Aside0.mk (blk_below (g := gb119) (o := .cells #[.bool false, .bool false, .bool false, .bool false] 25 (0, 0)) (by (with_reducible repeat (first | refine blk_drewN ?_ _ | refine blk_drew ?_ | refine blk_alloc ?_ _)); exact BK119.out) hb); have n2_ := Aside0.mk (below_step (by repeat (first | (with_reducible first | exact HB.out | apply below_alloc | apply pw_below_drewN | apply below_drew1 | refine below_set ?_ GE118.out | refine below_set ?_ GE119.out) | exact HB.out)) hb); clear BK118; clear BK119; clear HB; have BK118 := n0_; have BK119 := n1_; have HB := n2_; clear n0_ n1_ n2_; (try clear hb); (try clear hb2); (try clear hk); (try clear hi); have hcz13_0 : w12.cell? ⟨gb119, 0, none⟩ = some (.bool false) := (blk_cell BK119.out 0).trans rfl; have hcz13_1 : w12.cell? ⟨gb119, 1, none⟩ = some (.bool false) := (blk_cell BK119.out 1).trans rfl; have hcz13_2 : w12.cell? ⟨gb119, 2, none⟩ = some (.bool false) := (blk_cell BK119.out 2).trans rfl; have hcz13_3 : w12.cell? ⟨gb119, 3, none⟩ = some (.bool false) := (blk_cell BK119.out 3).trans rfl; have hfz13_0 := blk_frozen BK119.out 0; have hfz13_1 := blk_frozen BK119.out 1; have hfz13_2 := blk_frozen BK119.out 2; have hfz13_3 := blk_frozen BK119.out 3))
    refine bodyPost_ret (results_ct rfl _ _ gb119 25 #[.bool t121, .bool t122, .bool t123, .bool t124] (0, 0) _ rfl (by (with_reducible repeat (first | refine blk_drewN ?_ _ | refine blk_drew ?_ | refine blk_alloc ?_ _)); refine blk_put (cs := #[.bool t121, .bool t122, .bool t123, .bool false]) ?_ 3 _ rfl; (with_reducible repeat (first | refine blk_drewN ?_ _ | refine blk_drew ?_ | refine blk_alloc ?_ _)); refine blk_put (cs := #[.bool t121, .bool t122, .bool false, .bool false]) ?_ 2 _ rfl; (with_reducible repeat (first | refine blk_drewN ?_ _ | refine blk_drew ?_ | refine blk_alloc ?_ _)); refine blk_put (cs := #[.bool t121, .bool false, .bool false, .bool false]) ?_ 1 _ rfl; (with_reducible repeat (first | refine blk_drewN ?_ _ | refine blk_drew ?_ | refine blk_alloc ?_ _)); refine blk_put (cs := #[.bool false, .bool false, .bool false, .bool false]) ?_ 0 _ rfl; (with_reducible repeat (first | refine blk_drewN ?_ _ | refine blk_drew ?_ | refine blk_alloc ?_ _)); exact BK119.out) Try.underlying25 rfl (by kernel_rfl)) rfl ?_
    exact ⟨by first | rfl | (simp [errW_none, errW_some] <;> rfl) | (simp [*, errW_none, errW_some] <;> rfl), by repeat (first | (with_reducible first | exact HB.out | apply below_alloc | apply pw_below_drewN | apply below_drew1 | refine below_set ?_ GE118.out | refine below_set ?_ GE119.out) | exact HB.out)⟩
  · replace c4 := Bool.eq_false_iff.mpr c4
    subst c4
    have H1 : (some (a0_0, a0_1, a0_2, a0_3, false)) = some (r1, r2, r3, r4, r5) := by rw [if_neg (show ¬ (false = true) by decide)] at H; exact H
    clear H
    have H := H1
    clear H1
    simp only [Option.some.injEq, Prod.mk.injEq] at H
    obtain ⟨rfl, rfl, rfl, rfl, rfl⟩ := H
    go_enter Try.func42, Try.ntmps42
    go_wp2_with (first | ((with_reducible refine gate_dst (N := 2) rfl ?_); refine box_event ?hg (N := 2) ?hd (cs := #[.bool a0_0, .bool a0_1, .bool a0_2, .bool a0_3]) (t := 25) ?hr ?_; (case hd => rfl); (case hg => rfl); (case hr => first | (go_simp; done) | (go_simp; rfl)); intro gb118 hg w14 hbox hb; have n0_ := Aside0.mk (below_step (by repeat (first | (with_reducible first | exact HB.out | apply below_alloc | apply pw_below_drewN | apply below_drew1) | exact HB.out)) hb); have n1_ := Aside0.mk (hbox); have n2_ := Aside0.mk ((by rw [hg]; exact (below_size (by repeat (first | (with_reducible first | exact HB.out | apply below_alloc | apply pw_below_drewN | apply below_drew1) | exact HB.out))) : w.heap.size ≤ gb118)); have n3_ := Aside0.mk ((by rw [hg]; exact (below_size (by repeat (first | (with_reducible first | exact HB.out | apply below_alloc | apply pw_below_drewN | apply below_drew1) | exact HB.out))) : w.heap.size ≤ gb118)); clear HB; have HB := n0_; have BK118 := n1_; have GW118 := n2_; have GE118 := n3_; clear n0_ n1_ n2_ n3_; clear hb hbox hg) | ((with_reducible refine gate_dst (N := 4) rfl ?_); refine box_event ?hg (N := 4) ?hd (cs := #[.bool false, .bool false, .bool false, .bool false]) (t := 25) ?hr ?_; (case hd => rfl); (case hg => rfl); (case hr => first | (go_simp; done) | (go_simp; rfl)); intro gb119 hg w15 hbox hb; have n0_ := Aside0.mk (blk_below (g := gb118) (o := .cells #[.bool a0_0, .bool a0_1, .bool a0_2, .bool a0_3] 25 (0, 0)) (by (with_reducible repeat (first | refine blk_drewN ?_ _ | refine blk_drew ?_ | refine blk_alloc ?_ _)); exact BK118.out) hb); have n1_ := Aside0.mk (below_step (by repeat (first | (with_reducible first | exact HB.out | apply below_alloc | apply pw_below_drewN | apply below_drew1 | refine below_set ?_ GE118.out) | exact HB.out)) hb); have n2_ := Aside0.mk (hbox); have n3_ := Aside0.mk ((by rw [hg]; exact (below_size (by repeat (first | (with_reducible first | exact HB.out | apply below_alloc | apply pw_below_drewN | apply below_drew1 | refine below_set ?_ GE118.out) | exact HB.out))) : w.heap.size ≤ gb119)); have n4_ := Aside0.mk ((by rw [hg]; exact (below_size (by repeat (first | (with_reducible first | exact HB.out | apply below_alloc | apply pw_below_drewN | apply below_drew1 | refine below_set ?_ GE118.out) | exact HB.out))) : w.heap.size ≤ gb119)); have n5_ := Aside0.mk ((by rw [hg]; exact Nat.ne_of_lt (blk_lt (g := gb118) (o := .cells #[.bool a0_0, .bool a0_1, .bool a0_2, .bool a0_3] 25 (0, 0)) (by (with_reducible repeat (first | refine blk_drewN ?_ _ | refine blk_drew ?_ | refine blk_alloc ?_ _)); exact BK118.out)) : gb118 ≠ gb119)); have n6_ := Aside0.mk ((by rw [hg]; exact Nat.ne_of_gt (blk_lt (g := gb118) (o := .cells #[.bool a0_0, .bool a0_1, .bool a0_2, .bool a0_3] 25 (0, 0)) (by (with_reducible repeat (first | refine blk_drewN ?_ _ | refine blk_drew ?_ | refine blk_alloc ?_ _)); exact BK118.out)) : gb119 ≠ gb118)); clear BK118; clear HB; have BK118 := n0_; have HB := n1_; have BK119 := n2_; have GW119 := n3_; have GE119 := n4_; have NB118_119 := n5_; have NB119_118 := n6_; clear n0_ n1_ n2_ n3_ n4_ n5_ n6_; clear hb hbox hg; have hnb16 := NB118_119.out; have hnc16 := NB119_118.out; have hcz17_0 : w15.cell? ⟨gb118, 0, none⟩ = some (.bool a0_0) := (blk_cell BK118.out 0).trans rfl; have hcz17_1 : w15.cell? ⟨gb118, 1, none⟩ = some (.bool a0_1) := (blk_cell BK118.out 1).trans rfl; have hcz17_2 : w15.cell? ⟨gb118, 2, none⟩ = some (.bool a0_2) := (blk_cell BK118.out 2).trans rfl; have hcz17_3 : w15.cell? ⟨gb118, 3, none⟩ = some (.bool a0_3) := (blk_cell BK118.out 3).trans rfl; have hfz17_0 := blk_frozen BK118.out 0; have hfz17_1 := blk_frozen BK118.out 1; have hfz17_2 := blk_frozen BK118.out 2; have hfz17_3 := blk_frozen BK118.out 3) | ((with_reducible refine gate_callee (f := 25) rfl ?_); refine goesL_ (some 8) rfl rfl Try.func25 (by kernel_rfl) rfl #[.agg #[.bool a0_0, .bool a0_1, .bool a0_2, .bool a0_3], .int .i64 a1] rfl (by (try simp only [List.map_toArray, List.map_cons, List.map_nil]); first | done | rfl | (simp only [List.length_drop, List.length_take]; rfl)) ?_; (with_reducible refine (spec_BayMay.calls a0_0 a0_1 a0_2 a0_3 a1 false _ A3.out).mono ?_); rintro e w18 ⟨rfl, hb⟩; refine ⟨_, rfl, ?_⟩; have n0_ := Aside0.mk (blk_below (g := gb118) (o := .cells #[.bool a0_0, .bool a0_1, .bool a0_2, .bool a0_3] 25 (0, 0)) (by (with_reducible repeat (first | refine blk_drewN ?_ _ | refine blk_drew ?_ | refine blk_alloc ?_ _)); exact BK118.out) hb); have n1_ := Aside0.mk (blk_below (g := gb119) (o := .cells #[.bool false, .bool false, .bool false, .bool false] 25 (0, 0)) (by (with_reducible repeat (first | refine blk_drewN ?_ _ | refine blk_drew ?_ | refine blk_alloc ?_ _)); exact BK119.out) hb); have n2_ := Aside0.mk (below_step (by repeat (first | (with_reducible first | exact HB.out | apply below_alloc | apply pw_below_drewN | apply below_drew1 | refine below_set ?_ GE118.out | refine below_set ?_ GE119.out) | exact HB.out)) hb); clear BK118; clear BK119; clear HB; have BK118 := n0_; have BK119 := n1_; have HB := n2_; clear n0_ n1_ n2_; (try clear hb); (try clear hb2); (try clear hk); (try clear hi); have hcz19_0 : w18.cell? ⟨gb118, 0, none⟩ = some (.bool a0_0) := (blk_cell BK118.out 0).trans rfl; have hcz19_1 : w18.cell? ⟨gb118, 1, none⟩ = some (.bool a0_1) := (blk_cell BK118.out 1).trans rfl; have hcz19_2 : w18.cell? ⟨gb118, 2, none⟩ = some (.bool a0_2) := (blk_cell BK118.out 2).trans rfl; have hcz19_3 : w18.cell? ⟨gb118, 3, none⟩ = some (.bool a0_3) := (blk_cell BK118.out 3).trans rfl; have hfz19_0 := blk_frozen BK118.out 0; have hfz19_1 := blk_frozen BK118.out 1; have hfz19_2 := blk_frozen BK118.out 2; have hfz19_3 := blk_frozen BK118.out 3; have hcz20_0 : w18.cell? ⟨gb119, 0, none⟩ = some (.bool false) := (blk_cell BK119.out 0).trans rfl; have hcz20_1 : w18.cell? ⟨gb119, 1, none⟩ = some (.bool false) := (blk_cell BK119.out 1).trans rfl; have hcz20_2 : w18.cell? ⟨gb119, 2, none⟩ = some (.bool false) := (blk_cell BK119.out 2).trans rfl; have hcz20_3 : w18.cell? ⟨gb119, 3, none⟩ = some (.bool false) := (blk_cell BK119.out 3).trans rfl; have hfz20_0 := blk_frozen BK119.out 0; have hfz20_1 := blk_frozen BK119.out 1; have hfz20_2 := blk_frozen BK119.out 2; have hfz20_3 := blk_frozen BK119.out 3))
    refine bodyPost_ret (results_ct rfl _ _ gb119 25 #[.bool a0_0, .bool a0_1, .bool a0_2, .bool a0_3] (0, 0) _ rfl (by (with_reducible repeat (first | refine blk_drewN ?_ _ | refine blk_drew ?_ | refine blk_alloc ?_ _)); refine blk_put (cs := #[.bool a0_0, .bool a0_1, .bool a0_2, .bool false]) ?_ 3 _ rfl; (with_reducible repeat (first | refine blk_drewN ?_ _ | refine blk_drew ?_ | refine blk_alloc ?_ _)); refine blk_put (cs := #[.bool a0_0, .bool a0_1, .bool false, .bool false]) ?_ 2 _ rfl; (with_reducible repeat (first | refine blk_drewN ?_ _ | refine blk_drew ?_ | refine blk_alloc ?_ _)); refine blk_put (cs := #[.bool a0_0, .bool false, .bool false, .bool false]) ?_ 1 _ rfl; (with_reducible repeat (first | refine blk_drewN ?_ _ | refine blk_drew ?_ | refine blk_alloc ?_ _)); refine blk_put (cs := #[.bool false, .bool false, .bool false, .bool false]) ?_ 0 _ rfl; (with_reducible repeat (first | refine blk_drewN ?_ _ | refine blk_drew ?_ | refine blk_alloc ?_ _)); exact BK119.out) Try.underlying25 rfl (by kernel_rfl)) rfl ?_
    exact ⟨by first | rfl | (simp [errW_none, errW_some] <;> rfl) | (simp [*, errW_none, errW_some] <;> rfl), by repeat (first | (with_reducible first | exact HB.out | apply below_alloc | apply pw_below_drewN | apply below_drew1 | refine below_set ?_ GE118.out | refine below_set ?_ GE119.out) | exact HB.out)⟩

/-! ### impl_bayOf: function 71 -/
def impl_bayOf.f (a0 : Int) : Option (Bool × Bool × Bool × Bool) := if 0 ≤ a0 ∧ a0 ≤ 15 then some (Go.bits .and .i64 a0 1 == 1, Go.bits .and .i64 (a0 / 2) 1 == 1, Go.bits .and .i64 (a0 / 4) 1 == 1, Go.bits .and .i64 (a0 / 8) 1 == 1) else none
set_option maxHeartbeats 2000000 in
set_option maxRecDepth 100000 in
theorem impl_bayOf.calls (a0 : Int) (r1 : Bool) (r2 : Bool) (r3 : Bool) (r4 : Bool) (w : World) (h : impl_bayOf.f a0 = some (r1, r2, r3, r4)) :
    Calls Try.prog 71 #[.int .i64 a0] w fun e w' => e = .returned (.agg #[.bool r1, .bool r2, .bool r3, .bool r4]) ∧ Below w.heap.size w w' := by
  unfold impl_bayOf.f at h
  split at h
  · rename_i hb
    obtain ⟨hb0, hb1⟩ := hb
    simp only [Option.some.injEq, Prod.mk.injEq] at h
    obtain ⟨rfl, rfl, rfl, rfl⟩ := h
    go_enter Try.func71, Try.ntmps71
    go_wp2
    refine bodyPost_ret (v := .agg #[.bool (Go.bits .and .i64 a0 1 == 1), .bool (Go.bits .and .i64 (a0 / 2) 1 == 1), .bool (Go.bits .and .i64 (a0 / 4) 1 == 1), .bool (Go.bits .and .i64 (a0 / 8) 1 == 1)]) (by simp [results, Try.results71, go_sem]) rfl ⟨rfl, ?_⟩
    repeat (first | exact Below.refl _ _ | refine Below.setCell ?_ (by simp) _ | refine Below.alloc ?_ (by simp) _)
  · cases h

/-! ### impl_BayDo: function 43 -/
def impl_BayDo.f (a0_0 : Bool) (a0_1 : Bool) (a0_2 : Bool) (a0_3 : Bool) (a1 : Int) : Option (Bool × Bool × Bool × Bool × Bool) := (impl_BayMay.f a0_0 a0_1 a0_2 a0_3 a1).bind fun t127 => (if t127 = true then ((impl_Bay_number.f a0_0 a0_1 a0_2 a0_3).bind fun t128 => (if 0 ≤ (wrap64 (Int.tdiv a1 2)) then ((impl_bayOf.f (Go.bits .xor .i64 t128 (shl .i64 1 (wrap64 (Int.tdiv a1 2))))).bind fun bt129 => (some (bt129.1, bt129.2.1, bt129.2.2.1, bt129.2.2.2, true))) else (none))) else (some (a0_0, a0_1, a0_2, a0_3, false)))
def impl_BayDo.T3 : Bool × List (List Nat × List Nat) := (true, [([], []), ([0], [0]), ([], []), ([2], [2]), ([3], [3]), ([1, 4], [1, 4]), ([5, 1], [5]), ([6, 6, 0, 1, 2, 3, 4, 5, 6], [6]), ([7, 0, 1, 2, 3, 4, 5, 6, 7], [])])
def impl_BayDo.B3 : List Nat := [0, 1, 0, 4, 12, 31, 63, 127, 255]
theorem impl_BayDo.tab3 : rtab .any (opsOf Try.f43 3) = impl_BayDo.T3 := by kernel_rfl
theorem impl_BayDo.bits3 : waitsOk impl_BayDo.T3.2 impl_BayDo.B3 = true := by kernel_rfl
set_option maxHeartbeats 8000000 in
set_option maxRecDepth 100000 in
theorem impl_BayDo.calls (a0_0 : Bool) (a0_1 : Bool) (a0_2 : Bool) (a0_3 : Bool) (a1 : Int) (r1 : Bool) (r2 : Bool) (r3 : Bool) (r4 : Bool) (r5 : Bool) (w : World) (h : impl_BayDo.f a0_0 a0_1 a0_2 a0_3 a1 = some (r1, r2, r3, r4, r5)) :
    Calls Try.prog 43 #[.agg #[.bool a0_0, .bool a0_1, .bool a0_2, .bool a0_3], .int .i64 a1] w fun e w' => e = .returned (.tuple #[.agg #[.bool r1, .bool r2, .bool r3, .bool r4], .bool r5]) ∧ Below w.heap.size w w' := by
  have hu25 := Try.underlying25
  have HB := Aside0.mk (Below.refl w.heap.size w)
  have H : ((impl_BayMay.f a0_0 a0_1 a0_2 a0_3 a1).bind fun t127 => (if t127 = true then ((impl_Bay_number.f a0_0 a0_1 a0_2 a0_3).bind fun t128 => (if 0 ≤ (wrap64 (Int.tdiv a1 2)) then ((impl_bayOf.f (Go.bits .xor .i64 t128 (shl .i64 1 (wrap64 (Int.tdiv a1 2))))).bind fun bt129 => (some (bt129.1, bt129.2.1, bt129.2.2.1, bt129.2.2.2, true))) else (none))) else (some (a0_0, a0_1, a0_2, a0_3, false)))) = some (r1, r2, r3, r4, r5) := h
  clear h
  replace H := Option.bind_eq_some_iff.mp H
  obtain ⟨t127, A30, H⟩ := H
  replace H : (if t127 = true then ((impl_Bay_number.f a0_0 a0_1 a0_2 a0_3).bind fun t128 => (if 0 ≤ (wrap64 (Int.tdiv a1 2)) then ((impl_bayOf.f (Go.bits .xor .i64 t128 (shl .i64 1 (wrap64 (Int.tdiv a1 2))))).bind fun bt129 => (some (bt129.1, bt129.2.1, bt129.2.2.1, bt129.2.2.2, true))) else (none))) else (some (a0_0, a0_1, a0_2, a0_3, false))) = some (r1, r2, r3, r4, r5) := H
  have A3 := Aside0.mk A30
  clear A30
  by_cases c4 : t127 = true
  · subst c4
    have H1 : ((impl_Bay_number.f a0_0 a0_1 a0_2 a0_3).bind fun t128 => (if 0 ≤ (wrap64 (Int.tdiv a1 2)) then ((impl_bayOf.f (Go.bits .xor .i64 t128 (shl .i64 1 (wrap64 (Int.tdiv a1 2))))).bind fun bt129 => (some (bt129.1, bt129.2.1, bt129.2.2.1, bt129.2.2.2, true))) else (none))) = some (r1, r2, r3, r4, r5) := by rw [if_pos rfl] at H; exact H
    clear H
    have H := H1
    clear H1
    replace H := Option.bind_eq_some_iff.mp H
    obtain ⟨t128, A50, H⟩ := H
    replace H : (if 0 ≤ (wrap64 (Int.tdiv a1 2)) then ((impl_bayOf.f (Go.bits .xor .i64 t128 (shl .i64 1 (wrap64 (Int.tdiv a1 2))))).bind fun bt129 => (some (bt129.1, bt129.2.1, bt129.2.2.1, bt129.2.2.2, true))) else (none)) = some (r1, r2, r3, r4, r5) := H
    have A5 := Aside0.mk A50
    clear A50
    obtain ⟨ji6, hji6⟩ : ∃ j_ : Int, (wrap64 (Int.tdiv a1 2)) = j_ := ⟨_, rfl⟩
    replace H : (if 0 ≤ (ji6) then ((impl_bayOf.f (Go.bits .xor .i64 t128 (shl .i64 1 (ji6)))).bind fun bt129 => (some (bt129.1, bt129.2.1, bt129.2.2.1, bt129.2.2.2, true))) else (none)) = some (r1, r2, r3, r4, r5) := by first | (rw [hji6] at H; exact H) | (simp only [hji6] at H ⊢; exact H)
    (try rw [hji6] at A3)
    (try rw [hji6] at A5)
    have hji6w : (IntKind.i64.wrap (Int.tdiv a1 2)) = ji6 := (i64_w _).trans hji6
    by_cases c7 : 0 ≤ (ji6)
    · rw [if_pos c7] at H
      have c7b0 := eq_true c7
      have c7b1 : decide (0 ≤ (ji6)) = true := decide_eq_true c7
      clear c7
      obtain ⟨ji8, hji8⟩ : ∃ j_ : Int, (shl .i64 1 (ji6)) = j_ := ⟨_, rfl⟩
      replace H : ((impl_bayOf.f (Go.bits .xor .i64 t128 (ji8))).bind fun bt129 => (some (bt129.1, bt129.2.1, bt129.2.2.1, bt129.2.2.2, true))) = some (r1, r2, r3, r4, r5) := by first | (rw [hji8] at H; exact H) | (simp only [hji8] at H ⊢; exact H)
      (try rw [hji8] at A3)
      (try rw [hji8] at A5)
      have hji8_ : (IntKind.i64.wrap (1 * 2 ^ min (ji6).toNat 64)) = ji8 := hji8
      have hji8z : (ji6) ≤ 64 → (IntKind.i64.wrap (1 * 2 ^ (ji6).toNat)) = ji8 := shl_small hji8
      have hji8u : (IntKind.i64.wrap (2 ^ min (ji6).toNat 64)) = ji8 := by have h_ := hji8_; rw [Int.one_mul] at h_; exact h_
      have hji8v : (ji6) ≤ 64 → (IntKind.i64.wrap (2 ^ (ji6).toNat)) = ji8 := fun hle_ => by have h_ := hji8z hle_; rw [Int.one_mul] at h_; exact h_
      have hji8y : (wrap64 (1 * 2 ^ min (ji6).toNat 64)) = ji8 := (i64_w _).symm.trans hji8_
      have hji8x : (ji6) ≤ 64 → (wrap64 (1 * 2 ^ (ji6).toNat)) = ji8 := fun h_ => (i64_w _).symm.trans (hji8z h_)
      replace H := Option.bind_eq_some_iff.mp H
      obtain ⟨⟨t129, t130, t131, t132⟩, A90, H⟩ := H
      replace H : (some (t129, t130, t131, t132, true)) = some (r1, r2, r3, r4, r5) := H
      have A9 := Aside0.mk A90
      clear A90
      simp only [Option.some.injEq, Prod.mk.injEq] at H
      obtain ⟨rfl, rfl, rfl, rfl, rfl⟩ := H
      go_enter Try.func43, Try.ntmps43
      try go_wp2_with (first | ((with_reducible refine gate_dst (N := 2) rfl ?_); refine box_event ?hg (N := 2) ?hd (cs := #[.bool a0_0, .bool a0_1, .bool a0_2, .bool a0_3]) (t := 25) ?hr ?_; (case hd => rfl); (case hg => rfl); (case hr => first | (go_simp; done) | (go_simp; rfl)); intro gb125 hg w10 hbox hb; have n0_ := Aside0.mk (below_step (by repeat (first | (with_reducible first | exact HB.out | apply below_alloc | apply pw_below_drewN | apply below_drew1) | exact HB.out)) hb); have n1_ := Aside0.mk (hbox); have n2_ := Aside0.mk ((by rw [hg]; exact (below_size (by repeat (first | (with_reducible first | exact HB.out | apply below_alloc | apply pw_below_drewN | apply below_drew1) | exact HB.out))) : w.heap.size ≤ gb125)); have n3_ := Aside0.mk ((by rw [hg]; exact (below_size (by repeat (first | (with_reducible first | exact HB.out | apply below_alloc | apply pw_below_drewN | apply below_drew1) | exact HB.out))) : w.heap.size ≤ gb125)); clear HB; have HB := n0_; have BK125 := n1_; have GW125 := n2_; have GE125 := n3_; clear n0_ n1_ n2_ n3_; clear hb hbox hg) | ((with_reducible refine gate_dst (N := 4) rfl ?_); refine box_event ?hg (N := 4) ?hd (cs := #[.bool false, .bool false, .bool false, .bool false]) (t := 25) ?hr ?_; (case hd => rfl); (case hg => rfl); (case hr => first | (go_simp; done) | (go_simp; rfl)); intro gb126 hg w11 hbox hb; have n0_ := Aside0.mk (blk_below (g := gb125) (o := .cells #[.bool a0_0, .bool a0_1, .bool a0_2, .bool a0_3] 25 (0, 0)) (by (with_reducible repeat (first | refine blk_drewN ?_ _ | refine blk_drew ?_ | refine blk_alloc ?_ _)); exact BK125.out) hb); have n1_ := Aside0.mk (below_step (by repeat (first | (with_reducible first | exact HB.out | apply below_alloc | apply pw_below_drewN | apply below_drew1 | refine below_set ?_ GE125.out) | exact HB.out)) hb); have n2_ := Aside0.mk (hbox); have n3_ := Aside0.mk ((by rw [hg]; exact (below_size (by repeat (first | (with_reducible first | exact HB.out | apply below_alloc | apply pw_below_drewN | apply below_drew1 | refine below_set ?_ GE125.out) | exact HB.out))) : w.heap.size ≤ gb126)); have n4_ := Aside0.mk ((by rw [hg]; exact (below_size (by repeat (first | (with_reducible first | exact HB.out | apply below_alloc | apply pw_below_drewN | apply below_drew1 | refine below_set ?_ GE125.out) | exact HB.out))) : w.heap.size ≤ gb126)); have n5_ := Aside0.mk ((by rw [hg]; exact Nat.ne_of_lt (blk_lt (g := gb125) (o := .cells #[.bool a0_0, .bool a0_1, .bool a0_2, .bool a0_3] 25 (0, 0)) (by (with_reducible repeat (first | refine blk_drewN ?_ _ | refine blk_drew ?_ | refine blk_alloc ?_ _)); exact BK125.out)) : gb125 ≠ gb126)); have n6_ := Aside0.mk ((by rw [hg]; exact Nat.ne_of_gt (blk_lt (g := gb125) (o := .cells #[.bool a0_0, .bool a0_1, .bool a0_2, .bool a0_3] 25 (0, 0)) (by (with_reducible repeat (first | refine blk_drewN ?_ _ | refine blk_drew ?_ | refine blk_alloc ?_ _)); exact BK125.out)) : gb126 ≠ gb125)); clear BK125; clear HB; have BK125 := n0_; have HB := n1_; have BK126 := n2_; have GW126 := n3_; have GE126 := n4_; have NB125_126 := n5_; have NB126_125 := n6_; clear n0_ n1_ n2_ n3_ n4_ n5_ n6_; clear hb hbox hg; have hnb12 := NB125_126.out; have hnc12 := NB126_125.out; have hcz13_0 : w11.cell? ⟨gb125, 0, none⟩ = some (.bool a0_0) := (blk_cell BK125.out 0).trans rfl; have hcz13_1 : w11.cell? ⟨gb125, 1, none⟩ = some (.bool a0_1) := (blk_cell BK125.out 1).trans rfl; have hcz13_2 : w11.cell? ⟨gb125, 2, none⟩ = some (.bool a0_2) := (blk_cell BK125.out 2).trans rfl; have hcz13_3 : w11.cell? ⟨gb125, 3, none⟩ = some (.bool a0_3) := (blk_cell BK125.out 3).trans rfl; have hfz13_0 := blk_frozen BK125.out 0; have hfz13_1 := blk_frozen BK125.out 1; have hfz13_2 := blk_frozen BK125.out 2; have hfz13_3 := blk_frozen BK125.out 3) | ((with_reducible refine gate_callee (f := 26) rfl ?_); refine goesL_ (some 8) rfl rfl Try.func26 (by kernel_rfl) rfl #[.agg #[.bool a0_0, .bool a0_1, .bool a0_2, .bool a0_3], .int .i64 a1] rfl (by (try simp only [List.map_toArray, List.map_cons, List.map_nil]); first | done | rfl | (simp only [List.length_drop, List.length_take]; rfl)) ?_; (with_reducible refine (impl_BayMay.calls a0_0 a0_1 a0_2 a0_3 a1 true _ A3.out).mono ?_); rintro e w14 ⟨rfl, hb⟩; refine ⟨_, rfl, ?_⟩; have n0_ := Aside0.mk (blk_below (g := gb125) (o := .cells #[.bool a0_0, .bool a0_1, .bool a0_2, .bool a0_3] 25 (0, 0)) (by (with_reducible repeat (first | refine blk_drewN ?_ _ | refine blk_drew ?_ | refine blk_alloc ?_ _)); exact BK125.out) hb); have n1_ := Aside0.mk (blk_below (g := gb126) (o := .cells #[.bool false, .bool false, .bool false, .bool false] 25 (0, 0)) (by (with_reducible repeat (first | refine blk_drewN ?_ _ | refine blk_drew ?_ | refine blk_alloc ?_ _)); exact BK126.out) hb); have n2_ := Aside0.mk (below_step (by repeat (first | (with_reducible first | exact HB.out | apply below_alloc | apply pw_below_drewN | apply below_drew1 | refine below_set ?_ GE125.out | refine below_set ?_ GE126.out) | exact HB.out)) hb); clear BK125; clear BK126; clear HB; have BK125 := n0_; have BK126 := n1_; have HB := n2_; clear n0_ n1_ n2_; (try clear hb); (try clear hb2); (try clear hk); (try clear hi)))
      have n0_ := Aside0.mk (blk_drew BK125.out)
      have n1_ := Aside0.mk (blk_drew BK126.out)
      have n2_ := Aside0.mk (below_drew1 HB.out)
      clear BK125
      clear BK126
      clear HB
      have BK125 := n0_
      have BK126 := n1_
      have HB := n2_
      clear n0_ n1_ n2_
      refine start_ (n := 9) (S := fun w' => w'.cell? ⟨gb125, 0, none⟩ = some (.bool a0_0) ∧ w'.cell? ⟨gb125, 1, none⟩ = some (.bool a0_1) ∧ w'.cell? ⟨gb125, 2, none⟩ = some (.bool a0_2) ∧ w'.cell? ⟨gb125, 3, none⟩ = some (.bool a0_3)) (ds := []) #[false, false, false, false, false, false, false, false, false] (by kernel_rfl) rfl rfl ⟨(blk_cell BK125.out 0).trans rfl, (blk_cell BK125.out 1).trans rfl, (blk_cell BK125.out 2).trans rfl, (blk_cell BK125.out 3).trans rfl⟩ (fun hHeld => ?_); refine with_tabW impl_BayDo.tab3 impl_BayDo.bits3 (fun HT_ HW_ => ?_)
      generalize w14.drew = w15 at BK125 BK126 HB hHeld ⊢
      refine pure_ (i := 2) (N := some 13) (v := ?_) (a' := ?_) #[false, false, true, false, false, false, false, false, false] rfl rfl (any_of HT_.out (by kernel_rfl)) (fun _ _ _ h => h) (Or.inl ⟨by rfl, ?_⟩) ?_ ?_
      rotate_left
      · intro w'
        go_simp
        with_reducible rfl
      rotate_left
      · simp only [Act.put, List.setIfInBounds_toArray, List.set_cons_zero, List.set_cons_succ, i64_w, i32_w]
        rfl
      refine pure_ (i := 3) (N := some 14) (v := ?_) (a' := ?_) #[false, false, true, true, false, false, false, false, false] rfl rfl (any_of HT_.out (by kernel_rfl)) (fun _ _ _ h => h) (Or.inl ⟨by rfl, ?_⟩) ?_ ?_
      rotate_left
      · intro w'
        go_simp
        with_reducible rfl
      rotate_left
      · simp only [Act.put, List.setIfInBounds_toArray, List.set_cons_zero, List.set_cons_succ, i64_w, i32_w]
        rfl
      refine pure_ (i := 4) (N := some 15) (v := ?_) (a' := ?_) #[false, false, true, true, true, false, false, false, false] rfl rfl (any_of HT_.out (by kernel_rfl)) (fun _ _ _ h => h) (Or.inl ⟨by rfl, ?_⟩) ?_ ?_
      rotate_left
      · intro w'
        go_simp
        with_reducible rfl
      rotate_left
      · simp only [Act.put, List.setIfInBounds_toArray, List.set_cons_zero, List.set_cons_succ, i64_w, i32_w]
        rfl
      refine take_ (i := 0) (N := some 11) (v := ?_) (a' := ?_) #[true, false, true, true, true, false, false, false, false] rfl rfl (take_ofW HT_.out HW_.out (by kernel_rfl)) (fun _ _ _ h => h) (Or.inl ⟨by rfl, ?_⟩) hHeld ?_ ?_
      rotate_left
      · rintro w' ⟨s0, s1, s2, s3⟩
        go_simp
        with_reducible rfl
      rotate_left
      · simp only [Act.put, List.setIfInBounds_toArray, List.set_cons_zero, List.set_cons_succ, i64_w, i32_w]
        rfl
      refine one_ (i := 1) (N := some 12) #[true, true, true, true, true, false, false, false, false] rfl rfl (one_of HT_.out (by kernel_rfl)) (by decide) (fun K hK => ?_)
      refine goes_ Try.func64 (by kernel_rfl) rfl #[.agg #[.bool a0_0, .bool a0_1, .bool a0_2, .bool a0_3]] (by rfl) rfl rfl (by (try simp only [List.map_toArray, List.map_cons, List.map_nil]); first | done | rfl | (simp only [List.length_drop, List.length_take]; rfl)) ?_
      with_reducible refine (impl_Bay_number.calls a0_0 a0_1 a0_2 a0_3 t128 _ A5.out).mono ?_
      rintro e w16 ⟨rfl, hb⟩
      refine ⟨_, rfl, ?_⟩
      have n0_ := Aside0.mk (blk_below (g := gb125) (o := .cells #[.bool a0_0, .bool a0_1, .bool a0_2, .bool a0_3] 25 (0, 0)) (by (with_reducible repeat (first | refine blk_drewN ?_ _ | refine blk_drew ?_ | refine blk_alloc ?_ _)); exact BK125.out) hb)
      have n1_ := Aside0.mk (blk_below (g := gb126) (o := .cells #[.bool false, .bool false, .bool false, .bool false] 25 (0, 0)) (by (with_reducible repeat (first | refine blk_drewN ?_ _ | refine blk_drew ?_ | refine blk_alloc ?_ _)); exact BK126.out) hb)
      have n2_ := Aside0.mk (below_step (by repeat (first | (with_reducible first | exact HB.out | apply below_alloc | apply pw_below_drewN | apply below_drew1 | refine below_set ?_ GE125.out | refine below_set ?_ GE126.out) | exact HB.out)) hb)
      clear BK125
      clear BK126
      clear HB
      have BK125 := n0_
      have BK126 := n1_
      have HB := n2_
      clear n0_ n1_ n2_
      (try clear hb)
      (try clear hb2)
      (try clear hk)
      (try clear hi)
      refine hK.out _ _ ⟨(blk_cell BK125.out 0).trans rfl, (blk_cell BK125.out 1).trans rfl, (blk_cell BK125.out 2).trans rfl, (blk_cell BK125.out 3).trans rfl⟩ (fun hHeld => ?_)
      clear hK K
      refine norm_ (a' := ?_) ?_ ?_
      rotate_left
      · show Act.put _ (some 12) _ = _
        simp only [Act.put, List.setIfInBounds_toArray, List.set_cons_zero, List.set_cons_succ, i64_w, i32_w]
        rfl
      refine pure_ (i := 5) (N := some 16) (v := ?_) (a' := ?_) #[true, true, true, true, true, true, false, false, false] rfl rfl (any_of HT_.out (by kernel_rfl)) (fun _ _ _ h => h) (Or.inl ⟨by rfl, ?_⟩) ?_ ?_
      rotate_left
      · intro w'
        go_simp
        with_reducible rfl
      rotate_left
      · simp only [Act.put, List.setIfInBounds_toArray, List.set_cons_zero, List.set_cons_succ, i64_w, i32_w]
        rfl
      refine one_ (i := 6) (N := some 17) #[true, true, true, true, true, true, true, false, false] rfl rfl (one_of HT_.out (by kernel_rfl)) (by decide) (fun K hK => ?_)
      refine goes_ Try.func71 (by kernel_rfl) rfl #[.int .i64 (Go.bits .xor .i64 t128 (ji8))] (by rfl) rfl rfl (by (try simp only [List.map_toArray, List.map_cons, List.map_nil]); first | done | (simp only [hji8]; rfl) | rfl | (simp only [List.length_drop, List.length_take]; rfl)) ?_
      with_reducible refine (impl_bayOf.calls (Go.bits .xor .i64 t128 (ji8)) t129 t130 t131 t132 _ A9.out).mono ?_
      rintro e w17 ⟨rfl, hb⟩
      refine ⟨_, rfl, ?_⟩
      have n0_ := Aside0.mk (blk_below (g := gb125) (o := .cells #[.bool a0_0, .bool a0_1, .bool a0_2, .bool a0_3] 25 (0, 0)) (by (with_reducible repeat (first | refine blk_drewN ?_ _ | refine blk_drew ?_ | refine blk_alloc ?_ _)); exact BK125.out) hb)
      have n1_ := Aside0.mk (blk_below (g := gb126) (o := .cells #[.bool false, .bool false, .bool false, .bool false] 25 (0, 0)) (by (with_reducible repeat (first | refine blk_drewN ?_ _ | refine blk_drew ?_ | refine blk_alloc ?_ _)); exact BK126.out) hb)
      have n2_ := Aside0.mk (below_step (by repeat (first | (with_reducible first | exact HB.out | apply below_alloc | apply pw_below_drewN | apply below_drew1 | refine below_set ?_ GE125.out | refine below_set ?_ GE126.out) | exact HB.out)) hb)
      clear BK125
      clear BK126
      clear HB
      have BK125 := n0_
      have BK126 := n1_
      have HB := n2_
      clear n0_ n1_ n2_
      (try clear hb)
      (try clear hb2)
      (try clear hk)
      (try clear hi)
      refine hK.out _ _ ⟨(blk_cell BK125.out 0).trans rfl, (blk_cell BK125.out 1).trans rfl, (blk_cell BK125.out 2).trans rfl, (blk_cell BK125.out 3).trans rfl⟩ (fun hHeld => ?_)
      clear hK K
      refine norm_ (a' := ?_) ?_ ?_
      rotate_left
      · show Act.put _ (some 17) _ = _
        simp only [Act.put, List.setIfInBounds_toArray, List.set_cons_zero, List.set_cons_succ, i64_w, i32_w]
        rfl
      refine one_ (i := 7) (N := none) #[true, true, true, true, true, true, true, true, false] rfl rfl (one_of HT_.out (by kernel_rfl)) (by decide) (fun K hK => ?_)
      have hs18 : w17.cell? ⟨gb126, 0, none⟩ = some (.bool false) := (blk_cell BK126.out 0).trans rfl
      have hfs18 := blk_frozen BK126.out 0
      have hns18_0 := NB125_126.out
      have hms18_0 := NB126_125.out
      have hs19 : w17.cell? ⟨gb126, 1, none⟩ = some (.bool false) := (blk_cell BK126.out 1).trans rfl
      have hfs19 := blk_frozen BK126.out 1
      have hns19_0 := NB125_126.out
      have hms19_0 := NB126_125.out
      have hs20 : w17.cell? ⟨gb126, 2, none⟩ = some (.bool false) := (blk_cell BK126.out 2).trans rfl
      have hfs20 := blk_frozen BK126.out 2
      have hns20_0 := NB125_126.out
      have hms20_0 := NB126_125.out
      have hs21 : w17.cell? ⟨gb126, 3, none⟩ = some (.bool false) := (blk_cell BK126.out 3).trans rfl
      have hfs21 := blk_frozen BK126.out 3
      have hns21_0 := NB125_126.out
      have hms21_0 := NB126_125.out
      refine skip_ (w1 := ?_) (by rfl) rfl ?_ ?_
      rotate_left
      · go_simp
        rfl
      refine hK.out _ _ ⟨((cell_far (p := ⟨gb126, _, none⟩) NB125_126.out _).trans (((cell_far (p := ⟨gb126, _, none⟩) NB125_126.out _).trans (((cell_far (p := ⟨gb126, _, none⟩) NB125_126.out _).trans (((cell_far (p := ⟨gb126, _, none⟩) NB125_126.out _).trans (hHeld.1)))))))), ((cell_far (p := ⟨gb126, _, none⟩) NB125_126.out _).trans (((cell_far (p := ⟨gb126, _, none⟩) NB125_126.out _).trans (((cell_far (p := ⟨gb126, _, none⟩) NB125_126.out _).trans (((cell_far (p := ⟨gb126, _, none⟩) NB125_126.out _).trans (hHeld.2.1)))))))), ((cell_far (p := ⟨gb126, _, none⟩) NB125_126.out _).trans (((cell_far (p := ⟨gb126, _, none⟩) NB125_126.out _).trans (((cell_far (p := ⟨gb126, _, none⟩) NB125_126.out _).trans (((cell_far (p := ⟨gb126, _, none⟩) NB125_126.out _).trans (hHeld.2.2.1)))))))), ((cell_far (p := ⟨gb126, _, none⟩) NB125_126.out _).trans (((cell_far (p := ⟨gb126, _, none⟩) NB125_126.out _).trans (((cell_far (p := ⟨gb126, _, none⟩) NB125_126.out _).trans (((cell_far (p := ⟨gb126, _, none⟩) NB125_126.out _).trans (hHeld.2.2.2))))))))⟩ (fun hHeld => ?_)
      clear hK K
      refine pure_ (i := 8) (N := some 5) (v := ?_) (a' := ?_) #[true, true, true, true, true, true, true, true, true] rfl rfl (any_of HT_.out (by kernel_rfl)) (fun _ _ _ h => h) (Or.inl ⟨by rfl, ?_⟩) ?_ ?_
      rotate_left
      · intro w'
        go_simp
        with_reducible rfl
      rotate_left
      · simp only [Act.put, List.setIfInBounds_toArray, List.set_cons_zero, List.set_cons_succ, i64_w, i32_w]
        rfl
      refine done_ (done_of HT_.out (by kernel_rfl)) ?_
      try go_wp2
      refine bodyPost_ret (results_ct rfl _ _ gb126 25 #[.bool t129, .bool t130, .bool t131, .bool t132] (0, 0) _ rfl (by (with_reducible repeat (first | refine blk_drewN ?_ _ | refine blk_drew ?_ | refine blk_alloc ?_ _)); refine blk_put (cs := #[.bool t129, .bool t130, .bool t131, .bool false]) ?_ 3 _ rfl; (with_reducible repeat (first | refine blk_drewN ?_ _ | refine blk_drew ?_ | refine blk_alloc ?_ _)); refine blk_put (cs := #[.bool t129, .bool t130, .bool false, .bool false]) ?_ 2 _ rfl; (with_reducible repeat (first | refine blk_drewN ?_ _ | refine blk_drew ?_ | refine blk_alloc ?_ _)); refine blk_put (cs := #[.bool t129, .bool false, .bool false, .bool false]) ?_ 1 _ rfl; (with_reducible repeat (first | refine blk_drewN ?_ _ | refine blk_drew ?_ | refine blk_alloc ?_ _)); refine blk_put (cs := #[.bool false, .bool false, .bool false, .bool false]) ?_ 0 _ rfl; (with_reducible repeat (first | refine blk_drewN ?_ _ | refine blk_drew ?_ | refine blk_alloc ?_ _)); exact BK126.out) Try.underlying25 rfl (by kernel_rfl)) rfl ?_
      exact ⟨by first | rfl | (simp [errW_none, errW_some] <;> rfl) | (simp only [← hji6, ← hji8]; first | rfl | (simp [errW_none, errW_some] <;> rfl)) | (simp [*, errW_none, errW_some] <;> rfl), by repeat (first | (with_reducible first | exact HB.out | apply below_alloc | apply pw_below_drewN | apply below_drew1 | refine below_set ?_ GE125.out | refine below_set ?_ GE126.out) | exact HB.out)⟩
    · rw [if_neg c7] at H
      exact absurd H (by simp)
  · replace c4 := Bool.eq_false_iff.mpr c4
    subst c4
    have H1 : (some (a0_0, a0_1, a0_2, a0_3, false)) = some (r1, r2, r3, r4, r5) := by rw [if_neg (show ¬ (false = true) by decide)] at H; exact H
    clear H
    have H := H1
    clear H1
    simp only [Option.some.injEq, Prod.mk.injEq] at H
    obtain ⟨rfl, rfl, rfl, rfl, rfl⟩ := H
    go_enter Try.func43, Try.ntmps43
    go_wp2_with (first | ((with_reducible refine gate_dst (N := 2) rfl ?_); refine box_event ?hg (N := 2) ?hd (cs := #[.bool a0_0, .bool a0_1, .bool a0_2, .bool a0_3]) (t := 25) ?hr ?_; (case hd => rfl); (case hg => rfl); (case hr => first | (go_simp; done) | (go_simp; rfl)); intro gb125 hg w22 hbox hb; have n0_ := Aside0.mk (below_step (by repeat (first | (with_reducible first | exact HB.out | apply below_alloc | apply pw_below_drewN | apply below_drew1) | exact HB.out)) hb); have n1_ := Aside0.mk (hbox); have n2_ := Aside0.mk ((by rw [hg]; exact (below_size (by repeat (first | (with_reducible first | exact HB.out | apply below_alloc | apply pw_below_drewN | apply below_drew1) | exact HB.out))) : w.heap.size ≤ gb125)); have n3_ := Aside0.mk ((by rw [hg]; exact (below_size (by repeat (first | (with_reducible first | exact HB.out | apply below_alloc | apply pw_below_drewN | apply below_drew1) | exact HB.out))) : w.heap.size ≤ gb125)); clear HB; have HB := n0_; have BK125 := n1_; have GW125 := n2_; have GE125 := n3_; clear n0_ n1_ n2_ n3_; clear hb hbox hg) | ((with_reducible refine gate_dst (N := 4) rfl ?_); refine box_event ?hg (N := 4) ?hd (cs := #[.bool false, .bool false, .bool false, .bool false]) (t := 25) ?hr ?_; (case hd => rfl); (case hg => rfl); (case hr => first | (go_simp; done) | (go_simp; rfl)); intro gb126 hg w23 hbox hb; have n0_ := Aside0.mk (blk_below (g := gb125) (o := .cells #[.bool a0_0, .bool a0_1, .bool a0_2, .bool a0_3] 25 (0, 0)) (by (with_reducible repeat (first | refine blk_drewN ?_ _ | refine blk_drew ?_ | refine blk_alloc ?_ _)); exact BK125.out) hb); have n1_ := Aside0.mk (below_step (by repeat (first | (with_reducible first | exact HB.out | apply below_alloc | apply pw_below_drewN | apply below_drew1 | refine below_set ?_ GE125.out) | exact HB.out)) hb); have n2_ := Aside0.mk (hbox); have n3_ := Aside0.mk ((by rw [hg]; exact (below_size (by repeat (first | (with_reducible first | exact HB.out | apply below_alloc | apply pw_below_drewN | apply below_drew1 | refine below_set ?_ GE125.out) | exact HB.out))) : w.heap.size ≤ gb126)); have n4_ := Aside0.mk ((by rw [hg]; exact (below_size (by repeat (first | (with_reducible first | exact HB.out | apply below_alloc | apply pw_below_drewN | apply below_drew1 | refine below_set ?_ GE125.out) | exact HB.out))) : w.heap.size ≤ gb126)); have n5_ := Aside0.mk ((by rw [hg]; exact Nat.ne_of_lt (blk_lt (g := gb125) (o := .cells #[.bool a0_0, .bool a0_1, .bool a0_2, .bool a0_3] 25 (0, 0)) (by (with_reducible repeat (first | refine blk_drewN ?_ _ | refine blk_drew ?_ | refine blk_alloc ?_ _)); exact BK125.out)) : gb125 ≠ gb126)); have n6_ := Aside0.mk ((by rw [hg]; exact Nat.ne_of_gt (blk_lt (g := gb125) (o := .cells #[.bool a0_0, .bool a0_1, .bool a0_2, .bool a0_3] 25 (0, 0)) (by (with_reducible repeat (first | refine blk_drewN ?_ _ | refine blk_drew ?_ | refine blk_alloc ?_ _)); exact BK125.out)) : gb126 ≠ gb125)); clear BK125; clear HB; have BK125 := n0_; have HB := n1_; have BK126 := n2_; have GW126 := n3_; have GE126 := n4_; have NB125_126 := n5_; have NB126_125 := n6_; clear n0_ n1_ n2_ n3_ n4_ n5_ n6_; clear hb hbox hg; have hnb24 := NB125_126.out; have hnc24 := NB126_125.out; have hcz25_0 : w23.cell? ⟨gb125, 0, none⟩ = some (.bool a0_0) := (blk_cell BK125.out 0).trans rfl; have hcz25_1 : w23.cell? ⟨gb125, 1, none⟩ = some (.bool a0_1) := (blk_cell BK125.out 1).trans rfl; have hcz25_2 : w23.cell? ⟨gb125, 2, none⟩ = some (.bool a0_2) := (blk_cell BK125.out 2).trans rfl; have hcz25_3 : w23.cell? ⟨gb125, 3, none⟩ = some (.bool a0_3) := (blk_cell BK125.out 3).trans rfl; have hfz25_0 := blk_frozen BK125.out 0; have hfz25_1 := blk_frozen BK125.out 1; have hfz25_2 := blk_frozen BK125.out 2; have hfz25_3 := blk_frozen BK125.out 3) | ((with_reducible refine gate_callee (f := 26) rfl ?_); refine goesL_ (some 8) rfl rfl Try.func26 (by kernel_rfl) rfl #[.agg #[.bool a0_0, .bool a0_1, .bool a0_2, .bool a0_3], .int .i64 a1] rfl (by (try simp only [List.map_toArray, List.map_cons, List.map_nil]); first | done | rfl | (simp only [List.length_drop, List.length_take]; rfl)) ?_; (with_reducible refine (impl_BayMay.calls a0_0 a0_1 a0_2 a0_3 a1 false _ A3.out).mono ?_); rintro e w26 ⟨rfl, hb⟩; refine ⟨_, rfl, ?_⟩; have n0_ := Aside0.mk (blk_below (g := gb125) (o := .cells #[.bool a0_0, .bool a0_1, .bool a0_2, .bool a0_3] 25 (0, 0)) (by (with_reducible repeat (first | refine blk_drewN ?_ _ | refine blk_drew ?_ | refine blk_alloc ?_ _)); exact BK125.out) hb); have n1_ := Aside0.mk (blk_below (g := gb126) (o := .cells #[.bool false, .bool false, .bool false, .bool false] 25 (0, 0)) (by (with_reducible repeat (first | refine blk_drewN ?_ _ | refine blk_drew ?_ | refine blk_alloc ?_ _)); exact BK126.out) hb); have n2_ := Aside0.mk (below_step (by repeat (first | (with_reducible first | exact HB.out | apply below_alloc | apply pw_below_drewN | apply below_drew1 | refine below_set ?_ GE125.out | refine below_set ?_ GE126.out) | exact HB.out)) hb); clear BK125; clear BK126; clear HB; have BK125 := n0_; have BK126 := n1_; have HB := n2_; clear n0_ n1_ n2_; (try clear hb); (try clear hb2); (try clear hk); (try clear hi); have hcz27_0 : w26.cell? ⟨gb125, 0, none⟩ = some (.bool a0_0) := (blk_cell BK125.out 0).trans rfl; have hcz27_1 : w26.cell? ⟨gb125, 1, none⟩ = some (.bool a0_1) := (blk_cell BK125.out 1).trans rfl; have hcz27_2 : w26.cell? ⟨gb125, 2, none⟩ = some (.bool a0_2) := (blk_cell BK125.out 2).trans rfl; have hcz27_3 : w26.cell? ⟨gb125, 3, none⟩ = some (.bool a0_3) := (blk_cell BK125.out 3).trans rfl; have hfz27_0 := blk_frozen BK125.out 0; have hfz27_1 := blk_frozen BK125.out 1; have hfz27_2 := blk_frozen BK125.out 2; have hfz27_3 := blk_frozen BK125.out 3; have hcz28_0 : w26.cell? ⟨gb126, 0, none⟩ = some (.bool false) := (blk_cell BK126.out 0).trans rfl; have hcz28_1 : w26.cell? ⟨gb126, 1, none⟩ = some (.bool false) := (blk_cell BK126.out 1).trans rfl; have hcz28_2 : w26.cell? ⟨gb126, 2, none⟩ = some (.bool false) := (blk_cell BK126.out 2).trans rfl; have hcz28_3 : w26.cell? ⟨gb126, 3, none⟩ = some (.bool false) := (blk_cell BK126.out 3).trans rfl; have hfz28_0 := blk_frozen BK126.out 0; have hfz28_1 := blk_frozen BK126.out 1; have hfz28_2 := blk_frozen BK126.out 2; have hfz28_3 := blk_frozen BK126.out 3))
    refine bodyPost_ret (results_ct rfl _ _ gb126 25 #[.bool a0_0, .bool a0_1, .bool a0_2, .bool a0_3] (0, 0) _ rfl (by (with_reducible repeat (first | refine blk_drewN ?_ _ | refine blk_drew ?_ | refine blk_alloc ?_ _)); refine blk_put (cs := #[.bool a0_0, .bool a0_1, .bool a0_2, .bool false]) ?_ 3 _ rfl; (with_reducible repeat (first | refine blk_drewN ?_ _ | refine blk_drew ?_ | refine blk_alloc ?_ _)); refine blk_put (cs := #[.bool a0_0, .bool a0_1, .bool false, .bool false]) ?_ 2 _ rfl; (with_reducible repeat (first | refine blk_drewN ?_ _ | refine blk_drew ?_ | refine blk_alloc ?_ _)); refine blk_put (cs := #[.bool a0_0, .bool false, .bool false, .bool false]) ?_ 1 _ rfl; (with_reducible repeat (first | refine blk_drewN ?_ _ | refine blk_drew ?_ | refine blk_alloc ?_ _)); refine blk_put (cs := #[.bool false, .bool false, .bool false, .bool false]) ?_ 0 _ rfl; (with_reducible repeat (first | refine blk_drewN ?_ _ | refine blk_drew ?_ | refine blk_alloc ?_ _)); exact BK126.out) Try.underlying25 rfl (by kernel_rfl)) rfl ?_
    exact ⟨by first | rfl | (simp [errW_none, errW_some] <;> rfl) | (simp [*, errW_none, errW_some] <;> rfl), by repeat (first | (with_reducible first | exact HB.out | apply below_alloc | apply pw_below_drewN | apply below_drew1 | refine below_set ?_ GE125.out | refine below_set ?_ GE126.out) | exact HB.out)⟩

end Go.Proofs.Ytfdmoiaeclkdcaa.Gb
