-- Printed by wip/gen.py of this session's repo, over the kit's print.py. Not trusted: Lean checks it.
import Derived.Test.YtoajkfhjgnonjaaDoorGx0
import Derived.Test.YtoajkfhjgnonjaaDoorSq
namespace Go.Proofs.YtoajkfhjgnonjaaDoor.G
open Go.RowKit Go.Proofs.YtoajkfhjgnonjaaDoorW.PrintWords Go.Proofs.YtoajkfhjgnonjaaDoorW.PrintLast Go.Proofs.YtoajkfhjgnonjaaDoorW.PrintMore Go.Proofs.YtoajkfhjgnonjaaDoor.Sq
attribute [local go_sem] max2_int min2_int max_two min_two max_three min_three max_four min_four   -- for this text's walks alone
set_option linter.unusedVariables false
set_option linter.unusedSimpArgs false

/-! ### impl_Net_hasLine: function 88 -/
def impl_Net_hasLine.f (a0_0 : Int) (l0_1 : List (S40)) (a1 : Int) : Option (Bool) := if a1 ≥ 0 then (some (decide (a1 < (l0_1.length : Int)))) else (some false)
set_option maxHeartbeats 8000000 in
set_option maxRecDepth 100000 in
theorem impl_Net_hasLine.calls (a0_0 : Int) (A0_1 : Option Addr) (c0_1 : Nat) (l0_1 : List (S40)) (a1 : Int) (r : Bool) (w : World) (hr0_1 : Kd.C k40 w A0_1 l0_1.length l0_1) (hc0_1 : l0_1.length ≤ c0_1) (h : impl_Net_hasLine.f a0_0 l0_1 a1 = some r) :
  Calls Tryd.prog 88 #[.agg #[.int .i64 a0_0, .slice A0_1 l0_1.length c0_1], .int .i64 a1] w fun e w' => e = .returned (.bool r) ∧ Below w.heap.size w w' := by
 have hu25 := Tryd.underlying25
 have HR0_1 := Aside0.mk hr0_1
 have HC0_1 := Aside0.mk hc0_1
 clear hr0_1 hc0_1
 have HB := Aside0.mk (Below.refl w.heap.size w)
 have H : (if a1 ≥ 0 then (some (decide (a1 < (l0_1.length : Int)))) else (some false)) = some r := h
 clear h
 by_cases c3 : a1 ≥ 0
 ·rw [if_pos c3] at H
  have c3b0 : decide (0 ≤ a1) = true := decide_eq_true c3
  clear c3
  obtain rfl := Option.some.inj H
  go_enter Tryd.func88, Tryd.ntmps88
  go_wp2_with (first | ((with_reducible refine gate_dst (N := 2) rfl ?_); (try (refine gate_guard (by rfl) ?_; dsimp only)); refine box_event ?hg (N := 2) ?hd (cs := #[.int .i64 a0_0, .slice A0_1 l0_1.length c0_1]) (t := 25) ?hr ?_; (case hd => rfl); (case hg => rfl); (case hr => first | (go_simp; done) | (go_simp; rfl)); intro gb101 hg w4 hbox hb; have n0_ := Aside0.mk (below_step bw hb); have n1_ := Aside0.mk (hbox); have n2_ := Aside0.mk ((by rw [hg]; exact (below_size bw) : w.heap.size ≤ gb101)); have n3_ := Aside0.mk ((by rw [hg]; exact (below_size bw) : w.heap.size ≤ gb101)); clear HB; have HB := n0_; have BK101 := n1_; have GW101 := n2_; have GE101 := n3_; clear n0_ n1_ n2_ n3_; clear hb hbox hg; have hcz5_0 : w4.cell? ⟨gb101, 0, none⟩ = some (.int .i64 a0_0) := (blk_cell BK101.out 0).trans rfl; have hcz5_1 : w4.cell? ⟨gb101, 1, none⟩ = some (.slice A0_1 l0_1.length c0_1) := (blk_cell BK101.out 1).trans rfl; have hfz5_0 := blk_frozen BK101.out 0; have hfz5_1 := blk_frozen BK101.out 1))
  go_ret
  exact ⟨by first | rfl | (simp [errW_none, errW_some] <;> rfl) | (simp [*, errW_none, errW_some] <;> rfl), bw⟩
 ·rw [if_neg c3] at H
  have c3b0 : decide (0 ≤ a1) = false := decide_eq_false c3
  clear c3
  obtain rfl := Option.some.inj H
  go_enter Tryd.func88, Tryd.ntmps88
  go_wp2_with (first | ((with_reducible refine gate_dst (N := 2) rfl ?_); (try (refine gate_guard (by rfl) ?_; dsimp only)); refine box_event ?hg (N := 2) ?hd (cs := #[.int .i64 a0_0, .slice A0_1 l0_1.length c0_1]) (t := 25) ?hr ?_; (case hd => rfl); (case hg => rfl); (case hr => first | (go_simp; done) | (go_simp; rfl)); intro gb101 hg w6 hbox hb; have n0_ := Aside0.mk (below_step bw hb); have n1_ := Aside0.mk (hbox); have n2_ := Aside0.mk ((by rw [hg]; exact (below_size bw) : w.heap.size ≤ gb101)); have n3_ := Aside0.mk ((by rw [hg]; exact (below_size bw) : w.heap.size ≤ gb101)); clear HB; have HB := n0_; have BK101 := n1_; have GW101 := n2_; have GE101 := n3_; clear n0_ n1_ n2_ n3_; clear hb hbox hg))
  go_ret
  exact ⟨by first | rfl | (simp [errW_none, errW_some] <;> rfl) | (simp [*, errW_none, errW_some] <;> rfl), bw⟩

/-! ### impl_Net_hasBus: function 82 -/
def impl_Net_hasBus.f (a0_0 : Int) (l0_1 : List (S40)) (a1 : Int) : Option (Bool) := if a1 ≥ 0 then (some (decide (a1 < a0_0))) else (some false)
set_option maxHeartbeats 8000000 in
set_option maxRecDepth 100000 in
theorem impl_Net_hasBus.calls (a0_0 : Int) (A0_1 : Option Addr) (c0_1 : Nat) (l0_1 : List (S40)) (a1 : Int) (r : Bool) (w : World) (hr0_1 : Kd.C k40 w A0_1 l0_1.length l0_1) (hc0_1 : l0_1.length ≤ c0_1) (h : impl_Net_hasBus.f a0_0 l0_1 a1 = some r) :
  Calls Tryd.prog 82 #[.agg #[.int .i64 a0_0, .slice A0_1 l0_1.length c0_1], .int .i64 a1] w fun e w' => e = .returned (.bool r) ∧ Below w.heap.size w w' := by
 have hu25 := Tryd.underlying25
 have HR0_1 := Aside0.mk hr0_1
 have HC0_1 := Aside0.mk hc0_1
 clear hr0_1 hc0_1
 have HB := Aside0.mk (Below.refl w.heap.size w)
 have H : (if a1 ≥ 0 then (some (decide (a1 < a0_0))) else (some false)) = some r := h
 clear h
 by_cases c3 : a1 ≥ 0
 ·rw [if_pos c3] at H
  have c3b0 : decide (0 ≤ a1) = true := decide_eq_true c3
  clear c3
  obtain rfl := Option.some.inj H
  go_enter Tryd.func82, Tryd.ntmps82
  go_wp2_with (first | ((with_reducible refine gate_dst (N := 2) rfl ?_); refine box_event ?hg (N := 2) ?hd (cs := #[.int .i64 a0_0, .slice A0_1 l0_1.length c0_1]) (t := 25) ?hr ?_; (case hd => rfl); (case hg => rfl); (case hr => first | (go_simp; done) | (go_simp; rfl)); intro gb102 hg w4 hbox hb; have n0_ := Aside0.mk (below_step bw hb); have n1_ := Aside0.mk (hbox); have n2_ := Aside0.mk ((by rw [hg]; exact (below_size bw) : w.heap.size ≤ gb102)); have n3_ := Aside0.mk ((by rw [hg]; exact (below_size bw) : w.heap.size ≤ gb102)); clear HB; have HB := n0_; have BK102 := n1_; have GW102 := n2_; have GE102 := n3_; clear n0_ n1_ n2_ n3_; clear hb hbox hg; have hcz5_0 : w4.cell? ⟨gb102, 0, none⟩ = some (.int .i64 a0_0) := (blk_cell BK102.out 0).trans rfl; have hcz5_1 : w4.cell? ⟨gb102, 1, none⟩ = some (.slice A0_1 l0_1.length c0_1) := (blk_cell BK102.out 1).trans rfl; have hfz5_0 := blk_frozen BK102.out 0; have hfz5_1 := blk_frozen BK102.out 1))
  go_ret
  exact ⟨by first | rfl | (simp [errW_none, errW_some] <;> rfl) | (simp [*, errW_none, errW_some] <;> rfl), bw⟩
 ·rw [if_neg c3] at H
  have c3b0 : decide (0 ≤ a1) = false := decide_eq_false c3
  clear c3
  obtain rfl := Option.some.inj H
  go_enter Tryd.func82, Tryd.ntmps82
  go_wp2_with (first | ((with_reducible refine gate_dst (N := 2) rfl ?_); refine box_event ?hg (N := 2) ?hd (cs := #[.int .i64 a0_0, .slice A0_1 l0_1.length c0_1]) (t := 25) ?hr ?_; (case hd => rfl); (case hg => rfl); (case hr => first | (go_simp; done) | (go_simp; rfl)); intro gb102 hg w6 hbox hb; have n0_ := Aside0.mk (below_step bw hb); have n1_ := Aside0.mk (hbox); have n2_ := Aside0.mk ((by rw [hg]; exact (below_size bw) : w.heap.size ≤ gb102)); have n3_ := Aside0.mk ((by rw [hg]; exact (below_size bw) : w.heap.size ≤ gb102)); clear HB; have HB := n0_; have BK102 := n1_; have GW102 := n2_; have GE102 := n3_; clear n0_ n1_ n2_ n3_; clear hb hbox hg))
  go_ret
  exact ⟨by first | rfl | (simp [errW_none, errW_some] <;> rfl) | (simp [*, errW_none, errW_some] <;> rfl), bw⟩

/-! ### impl_NetValid: function 98 -/
mutual
def impl_NetValid.j0 : Nat → Bool → Int → List (S40) → Option (Bool)
 | 0, _, _, _ => none
 | k + 1, x18, x104000, x104001 => if x18 = true then (some false) else (impl_NetValid.l0 k x104001 (x104001.length : Int) 0 x104000 x104001)
def impl_NetValid.l0 : Nat → List (S40) → Int → Int → Int → List (S40) → Option (Bool)
 | 0, _, _, _, _, _ => none
 | k + 1, x20, x21, x22, x104000, x104001 => if x22 < x21 then (if 0 ≤ x22 then (if x22 < (x20.length : Int) then ((impl_Net_hasBus.f x104000 x104001 ((rd_T40 x20 x22).f0)).bind fun t106 => (if t106 = true then ((impl_Net_hasBus.f x104000 x104001 ((rd_T40 x20 x22).f1)).bind fun t107 => (if t107 = true then (if ((rd_T40 x20 x22).f0) = ((rd_T40 x20 x22).f1) then (some false) else (if ((rd_T40 x20 x22).f2) < 1 then (some false) else (if ((rd_T40 x20 x22).f2) > 999 then (some false) else (impl_NetValid.l0 k x20 x21 (wrap64 (x22 + 1)) x104000 x104001)))) else (some false))) else (some false))) else (none)) else (none)) else (some true)
end
def impl_NetValid.f (k : Nat) (a0_0 : Int) (l0_1 : List (S40)) : Option (Bool) := if a0_0 < 1 then (impl_NetValid.j0 k true a0_0 l0_1) else (if a0_0 > 8 then (impl_NetValid.j0 k true a0_0 l0_1) else (impl_NetValid.j0 k (decide ((l0_1.length : Int) > 10)) a0_0 l0_1))
theorem impl_NetValid.mono_l : ∀ k, (∀ y0 y1 y2, LeO (impl_NetValid.j0 k y0 y1 y2) (impl_NetValid.j0 (k + 1) y0 y1 y2)) ∧ (∀ y0 y1 y2 y3 y4, LeO (impl_NetValid.l0 k y0 y1 y2 y3 y4) (impl_NetValid.l0 (k + 1) y0 y1 y2 y3 y4))
 | 0 => ⟨fun _ _ _ r h => by simp [impl_NetValid.j0] at h, fun _ _ _ _ _ r h => by simp [impl_NetValid.l0] at h⟩
 | k + 1 => by
  obtain ⟨ih0, ih1⟩ := impl_NetValid.mono_l k
  refine ⟨?_, ?_⟩
  ·intro y0 y1 y2
   unfold impl_NetValid.j0
   repeat' first
   | (with_reducible exact ih0 _ _ _)
   | (with_reducible exact ih1 _ _ _ _ _)
   | (with_reducible exact LeO.refl _)
   | (with_reducible exact LeO.none _)
   | (with_reducible refine LeO.ite ?_ ?_)
   | (with_reducible refine LeO.bind ?_ (fun _ => ?_))
   | exact ih0 _ _ _
   | exact ih1 _ _ _ _ _
   | exact LeO.none _
   | refine LeO.ite ?_ ?_
   | refine LeO.bind ?_ (fun _ => ?_)
  ·intro y0 y1 y2 y3 y4
   unfold impl_NetValid.l0
   repeat' first
   | (with_reducible exact ih0 _ _ _)
   | (with_reducible exact ih1 _ _ _ _ _)
   | (with_reducible exact LeO.refl _)
   | (with_reducible exact LeO.none _)
   | (with_reducible refine LeO.ite ?_ ?_)
   | (with_reducible refine LeO.bind ?_ (fun _ => ?_))
   | exact ih0 _ _ _
   | exact ih1 _ _ _ _ _
   | exact LeO.none _
   | refine LeO.ite ?_ ?_
   | refine LeO.bind ?_ (fun _ => ?_)
theorem impl_NetValid.mono : ∀ a0 a1 k, LeO (impl_NetValid.f k a0 a1) (impl_NetValid.f (k + 1) a0 a1) := by
 intro a0 a1 k
 obtain ⟨ih0, ih1⟩ := impl_NetValid.mono_l k
 unfold impl_NetValid.f
 repeat' first
   | (with_reducible exact ih0 _ _ _)
   | (with_reducible exact ih1 _ _ _ _ _)
   | (with_reducible exact LeO.refl _)
   | (with_reducible exact LeO.none _)
   | (with_reducible refine LeO.ite ?_ ?_)
   | (with_reducible refine LeO.bind ?_ (fun _ => ?_))
   | exact ih0 _ _ _
   | exact ih1 _ _ _ _ _
   | exact LeO.none _
   | refine LeO.ite ?_ ?_
   | refine LeO.bind ?_ (fun _ => ?_)
set_option maxHeartbeats 8000000 in
set_option maxRecDepth 100000 in
theorem impl_NetValid.calls (k : Nat) (a0_0 : Int) (A0_1 : Option Addr) (c0_1 : Nat) (l0_1 : List (S40)) (r : Bool) (w : World) (hr0_1 : Kd.C k40 w A0_1 l0_1.length l0_1) (hc0_1 : l0_1.length ≤ c0_1) (h : impl_NetValid.f k a0_0 l0_1 = some r) :
  Calls Tryd.prog 98 #[.agg #[.int .i64 a0_0, .slice A0_1 l0_1.length c0_1]] w fun e w' => e = .returned (.bool r) ∧ Below w.heap.size w w' := by
 have hu25 := Tryd.underlying25
 have hu40 := Tryd.underlying40
 have HR0_1 := Aside0.mk hr0_1
 have HC0_1 := Aside0.mk hc0_1
 clear hr0_1 hc0_1
 have HB := Aside0.mk (Below.refl w.heap.size w)
 have H : (if a0_0 < 1 then (impl_NetValid.j0 k true a0_0 l0_1) else (if a0_0 > 8 then (impl_NetValid.j0 k true a0_0 l0_1) else (impl_NetValid.j0 k (decide ((l0_1.length : Int) > 10)) a0_0 l0_1))) = some r := h
 clear h
 have HC2 := Aside0.mk H
 clear H
 go_enter Tryd.func98, Tryd.ntmps98
 go_upto_region 1 with (first | ((with_reducible refine gate_dst (N := 1) rfl ?_); (try (refine gate_guard (by rfl) ?_; dsimp only)); refine box_event ?hg (N := 1) ?hd (cs := #[.int .i64 a0_0, .slice A0_1 l0_1.length c0_1]) (t := 25) ?hr ?_; (case hd => rfl); (case hg => rfl); (case hr => first | (go_simp; done) | (go_simp; rfl)); intro gb103 hg w3 hbox hb; have n0_ := Aside0.mk (below_step bw hb); have n1_ := Aside0.mk (hbox); have n2_ := Aside0.mk ((by rw [hg]; exact (below_size bw) : w.heap.size ≤ gb103)); have n3_ := Aside0.mk ((by rw [hg]; exact (below_size bw) : w.heap.size ≤ gb103)); clear HB; have HB := n0_; have BK103 := n1_; have GW103 := n2_; have GE103 := n3_; clear n0_ n1_ n2_ n3_; clear hb hbox hg))
 (try simp only [Act.put, List.setIfInBounds_toArray, List.set_cons_zero, List.set_cons_succ])
 go_cut [18] (fun v18 wc => ∃ (kq : Nat) (x18_1 : Bool), v18 = .bool x18_1 ∧ Aside0 (impl_NetValid.j0 kq x18_1 a0_0 l0_1 = some r) ∧ Aside0 (kq ≤ k) ∧ Aside0 (wc.heap[gb103]? = some (.cells #[.int .i64 a0_0, (.slice A0_1 l0_1.length c0_1)] 25 (0, 0))) ∧ Aside0 (Below w.heap.size w wc))
 case first =>
  have H := HC2.out
  clear HC2
  by_cases c4 : a0_0 < 1
  ·rw [if_pos c4] at H
   have c4b0 : decide (a0_0 < 1) = true := decide_eq_true c4
   clear c4
   (first | rw [c4b0] | (simp only [i64_w, i32_w]; rw [c4b0]) | skip)
   have H' := Aside0.mk H
   clear H
   have hcz5_0 : w3.cell? ⟨gb103, 0, none⟩ = some (.int .i64 a0_0) := (blk_cell BK103.out 0).trans rfl
   have hcz5_1 : w3.cell? ⟨gb103, 1, none⟩ = some (.slice A0_1 l0_1.length c0_1) := (blk_cell BK103.out 1).trans rfl
   have hfz5_0 := blk_frozen BK103.out 0
   have hfz5_1 := blk_frozen BK103.out 1
   go_wp2
   go_meet
   case rel => exact ⟨_, (true), (by first | rfl | (simp; done) | (simp [*]; done)), H', ⟨by first | omega | exact Nat.le_refl _⟩, ⟨bk BK103⟩, ⟨bw⟩⟩
  ·rw [if_neg c4] at H
   have c4b0 : decide (a0_0 < 1) = false := decide_eq_false c4
   clear c4
   (first | rw [c4b0] | (simp only [i64_w, i32_w]; rw [c4b0]) | skip)
   by_cases c6 : a0_0 > 8
   ·rw [if_pos c6] at H
    have c6b0 : decide (8 < a0_0) = true := decide_eq_true c6
    clear c6
    have H' := Aside0.mk H
    clear H
    have hcz7_0 : w3.cell? ⟨gb103, 0, none⟩ = some (.int .i64 a0_0) := (blk_cell BK103.out 0).trans rfl
    have hcz7_1 : w3.cell? ⟨gb103, 1, none⟩ = some (.slice A0_1 l0_1.length c0_1) := (blk_cell BK103.out 1).trans rfl
    have hfz7_0 := blk_frozen BK103.out 0
    have hfz7_1 := blk_frozen BK103.out 1
    go_wp2
    go_meet
    case rel => exact ⟨_, (true), (by first | rfl | (simp; done) | (simp [*]; done)), H', ⟨by first | omega | exact Nat.le_refl _⟩, ⟨bk BK103⟩, ⟨bw⟩⟩
   ·rw [if_neg c6] at H
    have c6b0 : decide (8 < a0_0) = false := decide_eq_false c6
    clear c6
    have H' := Aside0.mk H
    clear H
    have hcz8_0 : w3.cell? ⟨gb103, 0, none⟩ = some (.int .i64 a0_0) := (blk_cell BK103.out 0).trans rfl
    have hcz8_1 : w3.cell? ⟨gb103, 1, none⟩ = some (.slice A0_1 l0_1.length c0_1) := (blk_cell BK103.out 1).trans rfl
    have hfz8_0 := blk_frozen BK103.out 0
    have hfz8_1 := blk_frozen BK103.out 1
    go_wp2
    go_meet
    case rel => exact ⟨_, (decide ((l0_1.length : Int) > 10)), (by first | rfl | (simp; done) | (simp [*]; done)), H', ⟨by first | omega | exact Nat.le_refl _⟩, ⟨bk BK103⟩, ⟨bw⟩⟩
 case rest =>
  clear HC2
  try clear p2
  try clear c4
  try clear c4b0
  try clear c6
  try clear c6b0
  try clear hcz5_0
  try clear hcz5_1
  try clear hcz7_0
  try clear hcz7_1
  try clear hcz8_0
  try clear hcz8_1
  try clear hfz5_0
  try clear hfz5_1
  try clear hfz7_0
  try clear hfz7_1
  try clear hfz8_0
  try clear hfz8_1
  obtain ⟨kq, x18_1, rfl, HA, HJ1, BK103, HB⟩ := hcut
  cases kq with
  | zero => exact absurd HA.out (by simp [impl_NetValid.j0])
  | succ kj1 =>
   have H := HA.out
   clear HA
   simp only [impl_NetValid.j0] at H
   by_cases c9 : x18_1 = true
   ·subst c9
    have H1 : (some false) = some r := by rw [if_pos rfl] at H; exact H
    clear H
    have H := H1
    clear H1
    obtain rfl := Option.some.inj H
    go_wp2
    go_ret
    exact ⟨by first | rfl | (simp [errW_none, errW_some] <;> rfl) | (simp [*, errW_none, errW_some] <;> rfl), bw⟩
   ·replace c9 := Bool.eq_false_iff.mpr c9
    subst c9
    have H1 : (impl_NetValid.l0 kj1 l0_1 (l0_1.length : Int) 0 a0_0 l0_1) = some r := by rw [if_neg (show ¬ (false = true) by decide)] at H; exact H
    clear H
    have H := H1
    clear H1
    have H' := Aside0.mk H
    clear H
    have hcz10_0 : wc.cell? ⟨gb103, 0, none⟩ = some (.int .i64 a0_0) := (blk_cell BK103.out 0).trans rfl
    have hcz10_1 : wc.cell? ⟨gb103, 1, none⟩ = some (.slice A0_1 l0_1.length c0_1) := (blk_cell BK103.out 1).trans rfl
    have hfz10_0 := blk_frozen BK103.out 0
    have hfz10_1 := blk_frozen BK103.out 1
    go_wp2
    go_loopg [22] kj1 (fun kq v22 w' => ∃ (x22_2 : Int), v22 = .int .i64 x22_2 ∧ Aside0 (impl_NetValid.l0 kq l0_1 (l0_1.length : Int) x22_2 a0_0 l0_1 = some r) ∧ Aside0 (kq ≤ kj1) ∧ Aside0 (w'.heap[gb103]? = some (.cells #[.int .i64 a0_0, (.slice A0_1 l0_1.length c0_1)] 25 (0, 0))) ∧ Aside0 (Below w.heap.size w w'))
    case atStart => exact ⟨(0), (by first | rfl | (simp; done) | (simp [*]; done)), H', ⟨Nat.le_refl _⟩, ⟨bk BK103⟩, ⟨bw⟩⟩
    case round =>
     clear H'
     try clear p2
     try clear c4
     try clear c4b0
     try clear c6
     try clear c6b0
     try clear c9
     try clear hcz10_0
     try clear hcz10_1
     try clear hcz5_0
     try clear hcz5_1
     try clear hcz7_0
     try clear hcz7_1
     try clear hcz8_0
     try clear hcz8_1
     try clear hfz10_0
     try clear hfz10_1
     try clear hfz5_0
     try clear hfz5_1
     try clear hfz7_0
     try clear hfz7_1
     try clear hfz8_0
     try clear hfz8_1
     try clear p2
     obtain ⟨x22_2, rfl, HA, HK2, BK103, HB⟩ := hrel
     cases gk with
     | zero => exact absurd HA.out (by simp [impl_NetValid.l0])
     | succ k2 =>
      have H := HA.out
      clear HA
      simp only [impl_NetValid.l0] at H
      by_cases c11 : x22_2 < (l0_1.length : Int)
      ·rw [if_pos c11] at H
       have c11b0 : decide (x22_2 < (l0_1.length : Int)) = true := decide_eq_true c11
       clear c11
       by_cases c12 : 0 ≤ x22_2
       ·rw [if_pos c12] at H
        have c12b0 : decide (0 ≤ x22_2) = true := decide_eq_true c12
        clear c12
        by_cases c13 : x22_2 < (l0_1.length : Int)
        ·rw [if_pos c13] at H
         have c13b0 : decide (x22_2 < (l0_1.length : Int)) = true := decide_eq_true c13
         clear c13
         replace H := Option.bind_eq_some_iff.mp H
         obtain ⟨t106, A140, H⟩ := H
         replace H : (if t106 = true then ((impl_Net_hasBus.f a0_0 l0_1 ((rd_T40 l0_1 x22_2).f1)).bind fun t107 => (if t107 = true then (if ((rd_T40 l0_1 x22_2).f0) = ((rd_T40 l0_1 x22_2).f1) then (some false) else (if ((rd_T40 l0_1 x22_2).f2) < 1 then (some false) else (if ((rd_T40 l0_1 x22_2).f2) > 999 then (some false) else (impl_NetValid.l0 k2 l0_1 (l0_1.length : Int) (wrap64 (x22_2 + 1)) a0_0 l0_1)))) else (some false))) else (some false)) = some r := H
         have A14 := Aside0.mk A140
         clear A140
         by_cases c15 : t106 = true
         ·subst c15
          have H1 : ((impl_Net_hasBus.f a0_0 l0_1 ((rd_T40 l0_1 x22_2).f1)).bind fun t107 => (if t107 = true then (if ((rd_T40 l0_1 x22_2).f0) = ((rd_T40 l0_1 x22_2).f1) then (some false) else (if ((rd_T40 l0_1 x22_2).f2) < 1 then (some false) else (if ((rd_T40 l0_1 x22_2).f2) > 999 then (some false) else (impl_NetValid.l0 k2 l0_1 (l0_1.length : Int) (wrap64 (x22_2 + 1)) a0_0 l0_1)))) else (some false))) = some r := by rw [if_pos rfl] at H; exact H
          clear H
          have H := H1
          clear H1
          replace H := Option.bind_eq_some_iff.mp H
          obtain ⟨t107, A160, H⟩ := H
          replace H : (if t107 = true then (if ((rd_T40 l0_1 x22_2).f0) = ((rd_T40 l0_1 x22_2).f1) then (some false) else (if ((rd_T40 l0_1 x22_2).f2) < 1 then (some false) else (if ((rd_T40 l0_1 x22_2).f2) > 999 then (some false) else (impl_NetValid.l0 k2 l0_1 (l0_1.length : Int) (wrap64 (x22_2 + 1)) a0_0 l0_1)))) else (some false)) = some r := H
          have A16 := Aside0.mk A160
          clear A160
          by_cases c17 : t107 = true
          ·subst c17
           have H1 : (if ((rd_T40 l0_1 x22_2).f0) = ((rd_T40 l0_1 x22_2).f1) then (some false) else (if ((rd_T40 l0_1 x22_2).f2) < 1 then (some false) else (if ((rd_T40 l0_1 x22_2).f2) > 999 then (some false) else (impl_NetValid.l0 k2 l0_1 (l0_1.length : Int) (wrap64 (x22_2 + 1)) a0_0 l0_1)))) = some r := by rw [if_pos rfl] at H; exact H
           clear H
           have H := H1
           clear H1
           by_cases c18 : ((rd_T40 l0_1 x22_2).f0) = ((rd_T40 l0_1 x22_2).f1)
           ·rw [if_pos c18] at H
            have c18b0 : (((rd_T40 l0_1 x22_2).f0) == ((rd_T40 l0_1 x22_2).f1)) = true := beq_iff_eq.mpr c18
            have c18b1 : (((rd_T40 l0_1 x22_2).f0) != ((rd_T40 l0_1 x22_2).f1)) = false := bne_eq_false_iff_eq.mpr c18
            clear c18
            obtain rfl := Option.some.inj H
            have p104 : 0 ≤ (x22_2 : Int) := of_decide_eq_true (by first | (with_reducible assumption) | assumption)
            have q104 : x22_2 < (l0_1.length : Int) := of_decide_eq_true (by first | (with_reducible assumption) | assumption)
            obtain ⟨ad104, e104, hx104_0, hx104_1, hx104_2⟩ := at_T40 HR0_1.out x22_2 p104 q104
            cases e104
            replace hx104_0 := (HB.out.cell (World.block_lt_of_cell? w _ hx104_0)).trans hx104_0
            replace hx104_1 := (HB.out.cell (World.block_lt_of_cell? w _ hx104_1)).trans hx104_1
            replace hx104_2 := (HB.out.cell (World.block_lt_of_cell? w _ hx104_2)).trans hx104_2
            replace p104 := eq_true p104
            replace q104 := eq_true q104
            have TK0_ := Aside0.mk trivial
            go_wp2_with (first | (clear TK0_; (with_reducible refine gate_dst (N := 4) rfl ?_); (try (refine gate_guard (by rfl) ?_; dsimp only)); refine box_event ?hg (N := 4) ?hd (cs := #[.int .i64 0, .int .i64 0, .int .i64 0]) (t := 40) ?hr ?_; (case hd => rfl); (case hg => rfl); (case hr => first | (go_simp; done) | (go_simp; rfl)); intro gb105 hg w19 hbox hb; have n0_ := bkB BK103 hb; have n1_ := Aside0.mk (below_step bw hb); have n2_ := Aside0.mk (hbox); have n3_ := Aside0.mk ((by rw [hg]; exact (below_size bw) : w.heap.size ≤ gb105)); have n4_ := Aside0.mk ((by rw [hg]; exact (below_size bw) : w.heap.size ≤ gb105)); have n5_ := Aside0.mk ((by rw [hg]; exact Nat.ne_of_lt (blk_lt (g := gb103) (o := .cells #[.int .i64 a0_0, .slice (some ad104) l0_1.length c0_1] 25 (0, 0)) (bk BK103)) : gb103 ≠ gb105)); have n6_ := Aside0.mk ((by rw [hg]; exact Nat.ne_of_gt (blk_lt (g := gb103) (o := .cells #[.int .i64 a0_0, .slice (some ad104) l0_1.length c0_1] 25 (0, 0)) (bk BK103)) : gb105 ≠ gb103)); clear BK103 HB; have BK103 := n0_; have HB := n1_; have BK105 := n2_; have GW105 := n3_; have GE105 := n4_; have NB103_105 := n5_; have NB105_103 := n6_; clear n0_ n1_ n2_ n3_ n4_ n5_ n6_; clear hb hbox hg; have hnb20 := NB105_103.out; have hnc20 := NB103_105.out; have hcz21_0 : w19.cell? ⟨gb105, 0, none⟩ = some (.int .i64 0) := (blk_cell BK105.out 0).trans rfl; have hcz21_1 : w19.cell? ⟨gb105, 1, none⟩ = some (.int .i64 0) := (blk_cell BK105.out 1).trans rfl; have hcz21_2 : w19.cell? ⟨gb105, 2, none⟩ = some (.int .i64 0) := (blk_cell BK105.out 2).trans rfl; have hfz21_0 := blk_frozen BK105.out 0; have hfz21_1 := blk_frozen BK105.out 1; have hfz21_2 := blk_frozen BK105.out 2; have hcz22_0 : w19.cell? ⟨gb103, 0, none⟩ = some (.int .i64 a0_0) := (blk_cell BK103.out 0).trans rfl; have hcz22_1 : w19.cell? ⟨gb103, 1, none⟩ = some (.slice (some ad104) l0_1.length c0_1) := (blk_cell BK103.out 1).trans rfl; have hfz22_0 := blk_frozen BK103.out 0; have hfz22_1 := blk_frozen BK103.out 1; have TK1_ := Aside0.mk trivial) | (clear TK1_; (with_reducible refine gate_callee (f := 82) rfl ?_); refine goesL_ (some 29) rfl rfl Tryd.func82 (by kernel_rfl) rfl #[.agg #[.int .i64 a0_0, .slice (some ad104) l0_1.length c0_1], .int .i64 ((rd_T40 l0_1 x22_2).f0)] rfl (by (try simp only [List.map_toArray, List.map_cons, List.map_nil]); first | done | rfl | (simp only [List.length_drop, List.length_take]; rfl)) ?_; (with_reducible refine (impl_Net_hasBus.calls a0_0 _ _ l0_1 ((rd_T40 l0_1 x22_2).f0) true _ ?side1 ?side2 A14.out).mono ?_); (case side1 => exact Kd.C_below HR0_1.out bw); (case side2 => exact HC0_1.out); rintro e w23 ⟨rfl, hb⟩; refine ⟨_, rfl, ?_⟩; have n0_ := Aside0.mk (blk_below (g := gb103) (o := .cells #[.int .i64 a0_0, .slice (some ad104) l0_1.length c0_1] 25 (0, 0)) (by (with_reducible repeat (first | refine blk_drewN ?_ _ | refine blk_drew ?_ | refine blk_alloc ?_ _)); refine blk_far ?_ NB103_105.out _; (with_reducible repeat (first | refine blk_drewN ?_ _ | refine blk_drew ?_ | refine blk_alloc ?_ _)); refine blk_far ?_ NB103_105.out _; (with_reducible repeat (first | refine blk_drewN ?_ _ | refine blk_drew ?_ | refine blk_alloc ?_ _)); refine blk_far ?_ NB103_105.out _; (with_reducible repeat (first | refine blk_drewN ?_ _ | refine blk_drew ?_ | refine blk_alloc ?_ _)); exact BK103.out) hb); have n1_ := Aside0.mk (blk_below (g := gb105) (o := .cells #[.int .i64 ((rd_T40 l0_1 x22_2).f0), .int .i64 ((rd_T40 l0_1 x22_2).f1), .int .i64 ((rd_T40 l0_1 x22_2).f2)] 40 (0, 0)) (by (with_reducible repeat (first | refine blk_drewN ?_ _ | refine blk_drew ?_ | refine blk_alloc ?_ _)); refine blk_put (cs := #[.int .i64 ((rd_T40 l0_1 x22_2).f0), .int .i64 ((rd_T40 l0_1 x22_2).f1), .int .i64 0]) ?_ 2 _ rfl; (with_reducible repeat (first | refine blk_drewN ?_ _ | refine blk_drew ?_ | refine blk_alloc ?_ _)); refine blk_put (cs := #[.int .i64 ((rd_T40 l0_1 x22_2).f0), .int .i64 0, .int .i64 0]) ?_ 1 _ rfl; (with_reducible repeat (first | refine blk_drewN ?_ _ | refine blk_drew ?_ | refine blk_alloc ?_ _)); refine blk_put (cs := #[.int .i64 0, .int .i64 0, .int .i64 0]) ?_ 0 _ rfl; (with_reducible repeat (first | refine blk_drewN ?_ _ | refine blk_drew ?_ | refine blk_alloc ?_ _)); exact BK105.out) hb); have n2_ := Aside0.mk (below_step bw hb); clear BK103 BK105 HB; have BK103 := n0_; have BK105 := n1_; have HB := n2_; clear n0_ n1_ n2_; (try clear hb); (try clear hb2); (try clear hk); (try clear hi); have hcz24_0 : w23.cell? ⟨gb103, 0, none⟩ = some (.int .i64 a0_0) := (blk_cell BK103.out 0).trans rfl; have hcz24_1 : w23.cell? ⟨gb103, 1, none⟩ = some (.slice (some ad104) l0_1.length c0_1) := (blk_cell BK103.out 1).trans rfl; have hfz24_0 := blk_frozen BK103.out 0; have hfz24_1 := blk_frozen BK103.out 1; have hcz25_0 : w23.cell? ⟨gb105, 0, none⟩ = some (.int .i64 ((rd_T40 l0_1 x22_2).f0)) := (blk_cell BK105.out 0).trans rfl; have hcz25_1 : w23.cell? ⟨gb105, 1, none⟩ = some (.int .i64 ((rd_T40 l0_1 x22_2).f1)) := (blk_cell BK105.out 1).trans rfl; have hcz25_2 : w23.cell? ⟨gb105, 2, none⟩ = some (.int .i64 ((rd_T40 l0_1 x22_2).f2)) := (blk_cell BK105.out 2).trans rfl; have hfz25_0 := blk_frozen BK105.out 0; have hfz25_1 := blk_frozen BK105.out 1; have hfz25_2 := blk_frozen BK105.out 2; have TK2_ := Aside0.mk trivial) | (clear TK2_; go_at_call 82; (with_reducible refine (impl_Net_hasBus.calls a0_0 _ _ l0_1 ((rd_T40 l0_1 x22_2).f1) true _ ?side1 ?side2 A16.out).mono ?_); (case side1 => exact cb HR0_1); (case side2 => exact HC0_1.out); rintro e w26 ⟨rfl, hb⟩; have n0_ := bkB BK103 hb; have n1_ := bkB BK105 hb; have n2_ := Aside0.mk (below_step bw hb); clear BK103 BK105 HB; have BK103 := n0_; have BK105 := n1_; have HB := n2_; clear n0_ n1_ n2_; (try clear hb); (try clear hb2); (try clear hk); (try clear hi); have hcz27_0 : w26.cell? ⟨gb105, 0, none⟩ = some (.int .i64 ((rd_T40 l0_1 x22_2).f0)) := (blk_cell BK105.out 0).trans rfl; have hcz27_1 : w26.cell? ⟨gb105, 1, none⟩ = some (.int .i64 ((rd_T40 l0_1 x22_2).f1)) := (blk_cell BK105.out 1).trans rfl; have hcz27_2 : w26.cell? ⟨gb105, 2, none⟩ = some (.int .i64 ((rd_T40 l0_1 x22_2).f2)) := (blk_cell BK105.out 2).trans rfl; have hfz27_0 := blk_frozen BK105.out 0; have hfz27_1 := blk_frozen BK105.out 1; have hfz27_2 := blk_frozen BK105.out 2; have TK3_ := Aside0.mk trivial))
            go_ret
            exact ⟨by first | rfl | (simp [errW_none, errW_some] <;> rfl) | (simp [*, errW_none, errW_some] <;> rfl), bw⟩
           ·rw [if_neg c18] at H
            have c18b0 : (((rd_T40 l0_1 x22_2).f0) == ((rd_T40 l0_1 x22_2).f1)) = false := beq_eq_false_iff_ne.mpr c18
            have c18b1 : (((rd_T40 l0_1 x22_2).f0) != ((rd_T40 l0_1 x22_2).f1)) = true := bne_iff_ne.mpr c18
            by_cases c28 : ((rd_T40 l0_1 x22_2).f2) < 1
            ·rw [if_pos c28] at H
             have c28b0 : decide (((rd_T40 l0_1 x22_2).f2) < 1) = true := decide_eq_true c28
             clear c28
             obtain rfl := Option.some.inj H
             have p104 : 0 ≤ (x22_2 : Int) := of_decide_eq_true (by first | (with_reducible assumption) | assumption)
             have q104 : x22_2 < (l0_1.length : Int) := of_decide_eq_true (by first | (with_reducible assumption) | assumption)
             obtain ⟨ad104, e104, hx104_0, hx104_1, hx104_2⟩ := at_T40 HR0_1.out x22_2 p104 q104
             cases e104
             replace hx104_0 := (HB.out.cell (World.block_lt_of_cell? w _ hx104_0)).trans hx104_0
             replace hx104_1 := (HB.out.cell (World.block_lt_of_cell? w _ hx104_1)).trans hx104_1
             replace hx104_2 := (HB.out.cell (World.block_lt_of_cell? w _ hx104_2)).trans hx104_2
             replace p104 := eq_true p104
             replace q104 := eq_true q104
             have TK0_ := Aside0.mk trivial
             go_wp2_with (first | (clear TK0_; (with_reducible refine gate_dst (N := 4) rfl ?_); (try (refine gate_guard (by rfl) ?_; dsimp only)); refine box_event ?hg (N := 4) ?hd (cs := #[.int .i64 0, .int .i64 0, .int .i64 0]) (t := 40) ?hr ?_; (case hd => rfl); (case hg => rfl); (case hr => first | (go_simp; done) | (go_simp; rfl)); intro gb105 hg w29 hbox hb; have n0_ := bkB BK103 hb; have n1_ := Aside0.mk (below_step bw hb); have n2_ := Aside0.mk (hbox); have n3_ := Aside0.mk ((by rw [hg]; exact (below_size bw) : w.heap.size ≤ gb105)); have n4_ := Aside0.mk ((by rw [hg]; exact (below_size bw) : w.heap.size ≤ gb105)); have n5_ := Aside0.mk ((by rw [hg]; exact Nat.ne_of_lt (blk_lt (g := gb103) (o := .cells #[.int .i64 a0_0, .slice (some ad104) l0_1.length c0_1] 25 (0, 0)) (bk BK103)) : gb103 ≠ gb105)); have n6_ := Aside0.mk ((by rw [hg]; exact Nat.ne_of_gt (blk_lt (g := gb103) (o := .cells #[.int .i64 a0_0, .slice (some ad104) l0_1.length c0_1] 25 (0, 0)) (bk BK103)) : gb105 ≠ gb103)); clear BK103 HB; have BK103 := n0_; have HB := n1_; have BK105 := n2_; have GW105 := n3_; have GE105 := n4_; have NB103_105 := n5_; have NB105_103 := n6_; clear n0_ n1_ n2_ n3_ n4_ n5_ n6_; clear hb hbox hg; have hnb30 := NB105_103.out; have hnc30 := NB103_105.out; have hcz31_0 : w29.cell? ⟨gb105, 0, none⟩ = some (.int .i64 0) := (blk_cell BK105.out 0).trans rfl; have hcz31_1 : w29.cell? ⟨gb105, 1, none⟩ = some (.int .i64 0) := (blk_cell BK105.out 1).trans rfl; have hcz31_2 : w29.cell? ⟨gb105, 2, none⟩ = some (.int .i64 0) := (blk_cell BK105.out 2).trans rfl; have hfz31_0 := blk_frozen BK105.out 0; have hfz31_1 := blk_frozen BK105.out 1; have hfz31_2 := blk_frozen BK105.out 2; have hcz32_0 : w29.cell? ⟨gb103, 0, none⟩ = some (.int .i64 a0_0) := (blk_cell BK103.out 0).trans rfl; have hcz32_1 : w29.cell? ⟨gb103, 1, none⟩ = some (.slice (some ad104) l0_1.length c0_1) := (blk_cell BK103.out 1).trans rfl; have hfz32_0 := blk_frozen BK103.out 0; have hfz32_1 := blk_frozen BK103.out 1; have TK1_ := Aside0.mk trivial) | (clear TK1_; (with_reducible refine gate_callee (f := 82) rfl ?_); refine goesL_ (some 29) rfl rfl Tryd.func82 (by kernel_rfl) rfl #[.agg #[.int .i64 a0_0, .slice (some ad104) l0_1.length c0_1], .int .i64 ((rd_T40 l0_1 x22_2).f0)] rfl (by (try simp only [List.map_toArray, List.map_cons, List.map_nil]); first | done | rfl | (simp only [List.length_drop, List.length_take]; rfl)) ?_; (with_reducible refine (impl_Net_hasBus.calls a0_0 _ _ l0_1 ((rd_T40 l0_1 x22_2).f0) true _ ?side1 ?side2 A14.out).mono ?_); (case side1 => exact Kd.C_below HR0_1.out bw); (case side2 => exact HC0_1.out); rintro e w33 ⟨rfl, hb⟩; refine ⟨_, rfl, ?_⟩; have n0_ := Aside0.mk (blk_below (g := gb103) (o := .cells #[.int .i64 a0_0, .slice (some ad104) l0_1.length c0_1] 25 (0, 0)) (by (with_reducible repeat (first | refine blk_drewN ?_ _ | refine blk_drew ?_ | refine blk_alloc ?_ _)); refine blk_far ?_ NB103_105.out _; (with_reducible repeat (first | refine blk_drewN ?_ _ | refine blk_drew ?_ | refine blk_alloc ?_ _)); refine blk_far ?_ NB103_105.out _; (with_reducible repeat (first | refine blk_drewN ?_ _ | refine blk_drew ?_ | refine blk_alloc ?_ _)); refine blk_far ?_ NB103_105.out _; (with_reducible repeat (first | refine blk_drewN ?_ _ | refine blk_drew ?_ | refine blk_alloc ?_ _)); exact BK103.out) hb); have n1_ := Aside0.mk (blk_below (g := gb105) (o := .cells #[.int .i64 ((rd_T40 l0_1 x22_2).f0), .int .i64 ((rd_T40 l0_1 x22_2).f1), .int .i64 ((rd_T40 l0_1 x22_2).f2)] 40 (0, 0)) (by (with_reducible repeat (first | refine blk_drewN ?_ _ | refine blk_drew ?_ | refine blk_alloc ?_ _)); refine blk_put (cs := #[.int .i64 ((rd_T40 l0_1 x22_2).f0), .int .i64 ((rd_T40 l0_1 x22_2).f1), .int .i64 0]) ?_ 2 _ rfl; (with_reducible repeat (first | refine blk_drewN ?_ _ | refine blk_drew ?_ | refine blk_alloc ?_ _)); refine blk_put (cs := #[.int .i64 ((rd_T40 l0_1 x22_2).f0), .int .i64 0, .int .i64 0]) ?_ 1 _ rfl; (with_reducible repeat (first | refine blk_drewN ?_ _ | refine blk_drew ?_ | refine blk_alloc ?_ _)); refine blk_put (cs := #[.int .i64 0, .int .i64 0, .int .i64 0]) ?_ 0 _ rfl; (with_reducible repeat (first | refine blk_drewN ?_ _ | refine blk_drew ?_ | refine blk_alloc ?_ _)); exact BK105.out) hb); have n2_ := Aside0.mk (below_step bw hb); clear BK103 BK105 HB; have BK103 := n0_; have BK105 := n1_; have HB := n2_; clear n0_ n1_ n2_; (try clear hb); (try clear hb2); (try clear hk); (try clear hi); have hcz34_0 : w33.cell? ⟨gb103, 0, none⟩ = some (.int .i64 a0_0) := (blk_cell BK103.out 0).trans rfl; have hcz34_1 : w33.cell? ⟨gb103, 1, none⟩ = some (.slice (some ad104) l0_1.length c0_1) := (blk_cell BK103.out 1).trans rfl; have hfz34_0 := blk_frozen BK103.out 0; have hfz34_1 := blk_frozen BK103.out 1; have hcz35_0 : w33.cell? ⟨gb105, 0, none⟩ = some (.int .i64 ((rd_T40 l0_1 x22_2).f0)) := (blk_cell BK105.out 0).trans rfl; have hcz35_1 : w33.cell? ⟨gb105, 1, none⟩ = some (.int .i64 ((rd_T40 l0_1 x22_2).f1)) := (blk_cell BK105.out 1).trans rfl; have hcz35_2 : w33.cell? ⟨gb105, 2, none⟩ = some (.int .i64 ((rd_T40 l0_1 x22_2).f2)) := (blk_cell BK105.out 2).trans rfl; have hfz35_0 := blk_frozen BK105.out 0; have hfz35_1 := blk_frozen BK105.out 1; have hfz35_2 := blk_frozen BK105.out 2; have TK2_ := Aside0.mk trivial) | (clear TK2_; go_at_call 82; (with_reducible refine (impl_Net_hasBus.calls a0_0 _ _ l0_1 ((rd_T40 l0_1 x22_2).f1) true _ ?side1 ?side2 A16.out).mono ?_); (case side1 => exact cb HR0_1); (case side2 => exact HC0_1.out); rintro e w36 ⟨rfl, hb⟩; have n0_ := bkB BK103 hb; have n1_ := bkB BK105 hb; have n2_ := Aside0.mk (below_step bw hb); clear BK103 BK105 HB; have BK103 := n0_; have BK105 := n1_; have HB := n2_; clear n0_ n1_ n2_; (try clear hb); (try clear hb2); (try clear hk); (try clear hi); have hcz37_0 : w36.cell? ⟨gb105, 0, none⟩ = some (.int .i64 ((rd_T40 l0_1 x22_2).f0)) := (blk_cell BK105.out 0).trans rfl; have hcz37_1 : w36.cell? ⟨gb105, 1, none⟩ = some (.int .i64 ((rd_T40 l0_1 x22_2).f1)) := (blk_cell BK105.out 1).trans rfl; have hcz37_2 : w36.cell? ⟨gb105, 2, none⟩ = some (.int .i64 ((rd_T40 l0_1 x22_2).f2)) := (blk_cell BK105.out 2).trans rfl; have hfz37_0 := blk_frozen BK105.out 0; have hfz37_1 := blk_frozen BK105.out 1; have hfz37_2 := blk_frozen BK105.out 2; have TK3_ := Aside0.mk trivial))
             go_ret
             exact ⟨by first | rfl | (simp [errW_none, errW_some] <;> rfl) | (simp [*, errW_none, errW_some] <;> rfl), bw⟩
            ·rw [if_neg c28] at H
             have c28b0 : decide (((rd_T40 l0_1 x22_2).f2) < 1) = false := decide_eq_false c28
             clear c28
             by_cases c38 : ((rd_T40 l0_1 x22_2).f2) > 999
             ·rw [if_pos c38] at H
              have c38b0 : decide (999 < ((rd_T40 l0_1 x22_2).f2)) = true := decide_eq_true c38
              clear c38
              obtain rfl := Option.some.inj H
              have p104 : 0 ≤ (x22_2 : Int) := of_decide_eq_true (by first | (with_reducible assumption) | assumption)
              have q104 : x22_2 < (l0_1.length : Int) := of_decide_eq_true (by first | (with_reducible assumption) | assumption)
              obtain ⟨ad104, e104, hx104_0, hx104_1, hx104_2⟩ := at_T40 HR0_1.out x22_2 p104 q104
              cases e104
              replace hx104_0 := (HB.out.cell (World.block_lt_of_cell? w _ hx104_0)).trans hx104_0
              replace hx104_1 := (HB.out.cell (World.block_lt_of_cell? w _ hx104_1)).trans hx104_1
              replace hx104_2 := (HB.out.cell (World.block_lt_of_cell? w _ hx104_2)).trans hx104_2
              replace p104 := eq_true p104
              replace q104 := eq_true q104
              have TK0_ := Aside0.mk trivial
              go_wp2_with (first | (clear TK0_; (with_reducible refine gate_dst (N := 4) rfl ?_); (try (refine gate_guard (by rfl) ?_; dsimp only)); refine box_event ?hg (N := 4) ?hd (cs := #[.int .i64 0, .int .i64 0, .int .i64 0]) (t := 40) ?hr ?_; (case hd => rfl); (case hg => rfl); (case hr => first | (go_simp; done) | (go_simp; rfl)); intro gb105 hg w39 hbox hb; have n0_ := bkB BK103 hb; have n1_ := Aside0.mk (below_step bw hb); have n2_ := Aside0.mk (hbox); have n3_ := Aside0.mk ((by rw [hg]; exact (below_size bw) : w.heap.size ≤ gb105)); have n4_ := Aside0.mk ((by rw [hg]; exact (below_size bw) : w.heap.size ≤ gb105)); have n5_ := Aside0.mk ((by rw [hg]; exact Nat.ne_of_lt (blk_lt (g := gb103) (o := .cells #[.int .i64 a0_0, .slice (some ad104) l0_1.length c0_1] 25 (0, 0)) (bk BK103)) : gb103 ≠ gb105)); have n6_ := Aside0.mk ((by rw [hg]; exact Nat.ne_of_gt (blk_lt (g := gb103) (o := .cells #[.int .i64 a0_0, .slice (some ad104) l0_1.length c0_1] 25 (0, 0)) (bk BK103)) : gb105 ≠ gb103)); clear BK103 HB; have BK103 := n0_; have HB := n1_; have BK105 := n2_; have GW105 := n3_; have GE105 := n4_; have NB103_105 := n5_; have NB105_103 := n6_; clear n0_ n1_ n2_ n3_ n4_ n5_ n6_; clear hb hbox hg; have hnb40 := NB105_103.out; have hnc40 := NB103_105.out; have hcz41_0 : w39.cell? ⟨gb105, 0, none⟩ = some (.int .i64 0) := (blk_cell BK105.out 0).trans rfl; have hcz41_1 : w39.cell? ⟨gb105, 1, none⟩ = some (.int .i64 0) := (blk_cell BK105.out 1).trans rfl; have hcz41_2 : w39.cell? ⟨gb105, 2, none⟩ = some (.int .i64 0) := (blk_cell BK105.out 2).trans rfl; have hfz41_0 := blk_frozen BK105.out 0; have hfz41_1 := blk_frozen BK105.out 1; have hfz41_2 := blk_frozen BK105.out 2; have hcz42_0 : w39.cell? ⟨gb103, 0, none⟩ = some (.int .i64 a0_0) := (blk_cell BK103.out 0).trans rfl; have hcz42_1 : w39.cell? ⟨gb103, 1, none⟩ = some (.slice (some ad104) l0_1.length c0_1) := (blk_cell BK103.out 1).trans rfl; have hfz42_0 := blk_frozen BK103.out 0; have hfz42_1 := blk_frozen BK103.out 1; have TK1_ := Aside0.mk trivial) | (clear TK1_; (with_reducible refine gate_callee (f := 82) rfl ?_); refine goesL_ (some 29) rfl rfl Tryd.func82 (by kernel_rfl) rfl #[.agg #[.int .i64 a0_0, .slice (some ad104) l0_1.length c0_1], .int .i64 ((rd_T40 l0_1 x22_2).f0)] rfl (by (try simp only [List.map_toArray, List.map_cons, List.map_nil]); first | done | rfl | (simp only [List.length_drop, List.length_take]; rfl)) ?_; (with_reducible refine (impl_Net_hasBus.calls a0_0 _ _ l0_1 ((rd_T40 l0_1 x22_2).f0) true _ ?side1 ?side2 A14.out).mono ?_); (case side1 => exact Kd.C_below HR0_1.out bw); (case side2 => exact HC0_1.out); rintro e w43 ⟨rfl, hb⟩; refine ⟨_, rfl, ?_⟩; have n0_ := Aside0.mk (blk_below (g := gb103) (o := .cells #[.int .i64 a0_0, .slice (some ad104) l0_1.length c0_1] 25 (0, 0)) (by (with_reducible repeat (first | refine blk_drewN ?_ _ | refine blk_drew ?_ | refine blk_alloc ?_ _)); refine blk_far ?_ NB103_105.out _; (with_reducible repeat (first | refine blk_drewN ?_ _ | refine blk_drew ?_ | refine blk_alloc ?_ _)); refine blk_far ?_ NB103_105.out _; (with_reducible repeat (first | refine blk_drewN ?_ _ | refine blk_drew ?_ | refine blk_alloc ?_ _)); refine blk_far ?_ NB103_105.out _; (with_reducible repeat (first | refine blk_drewN ?_ _ | refine blk_drew ?_ | refine blk_alloc ?_ _)); exact BK103.out) hb); have n1_ := Aside0.mk (blk_below (g := gb105) (o := .cells #[.int .i64 ((rd_T40 l0_1 x22_2).f0), .int .i64 ((rd_T40 l0_1 x22_2).f1), .int .i64 ((rd_T40 l0_1 x22_2).f2)] 40 (0, 0)) (by (with_reducible repeat (first | refine blk_drewN ?_ _ | refine blk_drew ?_ | refine blk_alloc ?_ _)); refine blk_put (cs := #[.int .i64 ((rd_T40 l0_1 x22_2).f0), .int .i64 ((rd_T40 l0_1 x22_2).f1), .int .i64 0]) ?_ 2 _ rfl; (with_reducible repeat (first | refine blk_drewN ?_ _ | refine blk_drew ?_ | refine blk_alloc ?_ _)); refine blk_put (cs := #[.int .i64 ((rd_T40 l0_1 x22_2).f0), .int .i64 0, .int .i64 0]) ?_ 1 _ rfl; (with_reducible repeat (first | refine blk_drewN ?_ _ | refine blk_drew ?_ | refine blk_alloc ?_ _)); refine blk_put (cs := #[.int .i64 0, .int .i64 0, .int .i64 0]) ?_ 0 _ rfl; (with_reducible repeat (first | refine blk_drewN ?_ _ | refine blk_drew ?_ | refine blk_alloc ?_ _)); exact BK105.out) hb); have n2_ := Aside0.mk (below_step bw hb); clear BK103 BK105 HB; have BK103 := n0_; have BK105 := n1_; have HB := n2_; clear n0_ n1_ n2_; (try clear hb); (try clear hb2); (try clear hk); (try clear hi); have hcz44_0 : w43.cell? ⟨gb103, 0, none⟩ = some (.int .i64 a0_0) := (blk_cell BK103.out 0).trans rfl; have hcz44_1 : w43.cell? ⟨gb103, 1, none⟩ = some (.slice (some ad104) l0_1.length c0_1) := (blk_cell BK103.out 1).trans rfl; have hfz44_0 := blk_frozen BK103.out 0; have hfz44_1 := blk_frozen BK103.out 1; have hcz45_0 : w43.cell? ⟨gb105, 0, none⟩ = some (.int .i64 ((rd_T40 l0_1 x22_2).f0)) := (blk_cell BK105.out 0).trans rfl; have hcz45_1 : w43.cell? ⟨gb105, 1, none⟩ = some (.int .i64 ((rd_T40 l0_1 x22_2).f1)) := (blk_cell BK105.out 1).trans rfl; have hcz45_2 : w43.cell? ⟨gb105, 2, none⟩ = some (.int .i64 ((rd_T40 l0_1 x22_2).f2)) := (blk_cell BK105.out 2).trans rfl; have hfz45_0 := blk_frozen BK105.out 0; have hfz45_1 := blk_frozen BK105.out 1; have hfz45_2 := blk_frozen BK105.out 2; have TK2_ := Aside0.mk trivial) | (clear TK2_; go_at_call 82; (with_reducible refine (impl_Net_hasBus.calls a0_0 _ _ l0_1 ((rd_T40 l0_1 x22_2).f1) true _ ?side1 ?side2 A16.out).mono ?_); (case side1 => exact cb HR0_1); (case side2 => exact HC0_1.out); rintro e w46 ⟨rfl, hb⟩; have n0_ := bkB BK103 hb; have n1_ := bkB BK105 hb; have n2_ := Aside0.mk (below_step bw hb); clear BK103 BK105 HB; have BK103 := n0_; have BK105 := n1_; have HB := n2_; clear n0_ n1_ n2_; (try clear hb); (try clear hb2); (try clear hk); (try clear hi); have hcz47_0 : w46.cell? ⟨gb105, 0, none⟩ = some (.int .i64 ((rd_T40 l0_1 x22_2).f0)) := (blk_cell BK105.out 0).trans rfl; have hcz47_1 : w46.cell? ⟨gb105, 1, none⟩ = some (.int .i64 ((rd_T40 l0_1 x22_2).f1)) := (blk_cell BK105.out 1).trans rfl; have hcz47_2 : w46.cell? ⟨gb105, 2, none⟩ = some (.int .i64 ((rd_T40 l0_1 x22_2).f2)) := (blk_cell BK105.out 2).trans rfl; have hfz47_0 := blk_frozen BK105.out 0; have hfz47_1 := blk_frozen BK105.out 1; have hfz47_2 := blk_frozen BK105.out 2; have TK3_ := Aside0.mk trivial))
              go_ret
              exact ⟨by first | rfl | (simp [errW_none, errW_some] <;> rfl) | (simp [*, errW_none, errW_some] <;> rfl), bw⟩
             ·rw [if_neg c38] at H
              have c38b0 : decide (999 < ((rd_T40 l0_1 x22_2).f2)) = false := decide_eq_false c38
              clear c38
              have H' := Aside0.mk H
              clear H
              have p104 : 0 ≤ (x22_2 : Int) := of_decide_eq_true (by first | (with_reducible assumption) | assumption)
              have q104 : x22_2 < (l0_1.length : Int) := of_decide_eq_true (by first | (with_reducible assumption) | assumption)
              obtain ⟨ad104, e104, hx104_0, hx104_1, hx104_2⟩ := at_T40 HR0_1.out x22_2 p104 q104
              cases e104
              replace hx104_0 := (HB.out.cell (World.block_lt_of_cell? w _ hx104_0)).trans hx104_0
              replace hx104_1 := (HB.out.cell (World.block_lt_of_cell? w _ hx104_1)).trans hx104_1
              replace hx104_2 := (HB.out.cell (World.block_lt_of_cell? w _ hx104_2)).trans hx104_2
              replace p104 := eq_true p104
              replace q104 := eq_true q104
              have TK0_ := Aside0.mk trivial
              go_wp2_with (first | (clear TK0_; (with_reducible refine gate_dst (N := 4) rfl ?_); (try (refine gate_guard (by rfl) ?_; dsimp only)); refine box_event ?hg (N := 4) ?hd (cs := #[.int .i64 0, .int .i64 0, .int .i64 0]) (t := 40) ?hr ?_; (case hd => rfl); (case hg => rfl); (case hr => first | (go_simp; done) | (go_simp; rfl)); intro gb105 hg w48 hbox hb; have n0_ := bkB BK103 hb; have n1_ := Aside0.mk (below_step bw hb); have n2_ := Aside0.mk (hbox); have n3_ := Aside0.mk ((by rw [hg]; exact (below_size bw) : w.heap.size ≤ gb105)); have n4_ := Aside0.mk ((by rw [hg]; exact (below_size bw) : w.heap.size ≤ gb105)); have n5_ := Aside0.mk ((by rw [hg]; exact Nat.ne_of_lt (blk_lt (g := gb103) (o := .cells #[.int .i64 a0_0, .slice (some ad104) l0_1.length c0_1] 25 (0, 0)) (bk BK103)) : gb103 ≠ gb105)); have n6_ := Aside0.mk ((by rw [hg]; exact Nat.ne_of_gt (blk_lt (g := gb103) (o := .cells #[.int .i64 a0_0, .slice (some ad104) l0_1.length c0_1] 25 (0, 0)) (bk BK103)) : gb105 ≠ gb103)); clear BK103 HB; have BK103 := n0_; have HB := n1_; have BK105 := n2_; have GW105 := n3_; have GE105 := n4_; have NB103_105 := n5_; have NB105_103 := n6_; clear n0_ n1_ n2_ n3_ n4_ n5_ n6_; clear hb hbox hg; have hnb49 := NB105_103.out; have hnc49 := NB103_105.out; have hcz50_0 : w48.cell? ⟨gb105, 0, none⟩ = some (.int .i64 0) := (blk_cell BK105.out 0).trans rfl; have hcz50_1 : w48.cell? ⟨gb105, 1, none⟩ = some (.int .i64 0) := (blk_cell BK105.out 1).trans rfl; have hcz50_2 : w48.cell? ⟨gb105, 2, none⟩ = some (.int .i64 0) := (blk_cell BK105.out 2).trans rfl; have hfz50_0 := blk_frozen BK105.out 0; have hfz50_1 := blk_frozen BK105.out 1; have hfz50_2 := blk_frozen BK105.out 2; have hcz51_0 : w48.cell? ⟨gb103, 0, none⟩ = some (.int .i64 a0_0) := (blk_cell BK103.out 0).trans rfl; have hcz51_1 : w48.cell? ⟨gb103, 1, none⟩ = some (.slice (some ad104) l0_1.length c0_1) := (blk_cell BK103.out 1).trans rfl; have hfz51_0 := blk_frozen BK103.out 0; have hfz51_1 := blk_frozen BK103.out 1; have TK1_ := Aside0.mk trivial) | (clear TK1_; (with_reducible refine gate_callee (f := 82) rfl ?_); refine goesL_ (some 29) rfl rfl Tryd.func82 (by kernel_rfl) rfl #[.agg #[.int .i64 a0_0, .slice (some ad104) l0_1.length c0_1], .int .i64 ((rd_T40 l0_1 x22_2).f0)] rfl (by (try simp only [List.map_toArray, List.map_cons, List.map_nil]); first | done | rfl | (simp only [List.length_drop, List.length_take]; rfl)) ?_; (with_reducible refine (impl_Net_hasBus.calls a0_0 _ _ l0_1 ((rd_T40 l0_1 x22_2).f0) true _ ?side1 ?side2 A14.out).mono ?_); (case side1 => exact Kd.C_below HR0_1.out bw); (case side2 => exact HC0_1.out); rintro e w52 ⟨rfl, hb⟩; refine ⟨_, rfl, ?_⟩; have n0_ := Aside0.mk (blk_below (g := gb103) (o := .cells #[.int .i64 a0_0, .slice (some ad104) l0_1.length c0_1] 25 (0, 0)) (by (with_reducible repeat (first | refine blk_drewN ?_ _ | refine blk_drew ?_ | refine blk_alloc ?_ _)); refine blk_far ?_ NB103_105.out _; (with_reducible repeat (first | refine blk_drewN ?_ _ | refine blk_drew ?_ | refine blk_alloc ?_ _)); refine blk_far ?_ NB103_105.out _; (with_reducible repeat (first | refine blk_drewN ?_ _ | refine blk_drew ?_ | refine blk_alloc ?_ _)); refine blk_far ?_ NB103_105.out _; (with_reducible repeat (first | refine blk_drewN ?_ _ | refine blk_drew ?_ | refine blk_alloc ?_ _)); exact BK103.out) hb); have n1_ := Aside0.mk (blk_below (g := gb105) (o := .cells #[.int .i64 ((rd_T40 l0_1 x22_2).f0), .int .i64 ((rd_T40 l0_1 x22_2).f1), .int .i64 ((rd_T40 l0_1 x22_2).f2)] 40 (0, 0)) (by (with_reducible repeat (first | refine blk_drewN ?_ _ | refine blk_drew ?_ | refine blk_alloc ?_ _)); refine blk_put (cs := #[.int .i64 ((rd_T40 l0_1 x22_2).f0), .int .i64 ((rd_T40 l0_1 x22_2).f1), .int .i64 0]) ?_ 2 _ rfl; (with_reducible repeat (first | refine blk_drewN ?_ _ | refine blk_drew ?_ | refine blk_alloc ?_ _)); refine blk_put (cs := #[.int .i64 ((rd_T40 l0_1 x22_2).f0), .int .i64 0, .int .i64 0]) ?_ 1 _ rfl; (with_reducible repeat (first | refine blk_drewN ?_ _ | refine blk_drew ?_ | refine blk_alloc ?_ _)); refine blk_put (cs := #[.int .i64 0, .int .i64 0, .int .i64 0]) ?_ 0 _ rfl; (with_reducible repeat (first | refine blk_drewN ?_ _ | refine blk_drew ?_ | refine blk_alloc ?_ _)); exact BK105.out) hb); have n2_ := Aside0.mk (below_step bw hb); clear BK103 BK105 HB; have BK103 := n0_; have BK105 := n1_; have HB := n2_; clear n0_ n1_ n2_; (try clear hb); (try clear hb2); (try clear hk); (try clear hi); have hcz53_0 : w52.cell? ⟨gb103, 0, none⟩ = some (.int .i64 a0_0) := (blk_cell BK103.out 0).trans rfl; have hcz53_1 : w52.cell? ⟨gb103, 1, none⟩ = some (.slice (some ad104) l0_1.length c0_1) := (blk_cell BK103.out 1).trans rfl; have hfz53_0 := blk_frozen BK103.out 0; have hfz53_1 := blk_frozen BK103.out 1; have hcz54_0 : w52.cell? ⟨gb105, 0, none⟩ = some (.int .i64 ((rd_T40 l0_1 x22_2).f0)) := (blk_cell BK105.out 0).trans rfl; have hcz54_1 : w52.cell? ⟨gb105, 1, none⟩ = some (.int .i64 ((rd_T40 l0_1 x22_2).f1)) := (blk_cell BK105.out 1).trans rfl; have hcz54_2 : w52.cell? ⟨gb105, 2, none⟩ = some (.int .i64 ((rd_T40 l0_1 x22_2).f2)) := (blk_cell BK105.out 2).trans rfl; have hfz54_0 := blk_frozen BK105.out 0; have hfz54_1 := blk_frozen BK105.out 1; have hfz54_2 := blk_frozen BK105.out 2; have TK2_ := Aside0.mk trivial) | (clear TK2_; go_at_call 82; (with_reducible refine (impl_Net_hasBus.calls a0_0 _ _ l0_1 ((rd_T40 l0_1 x22_2).f1) true _ ?side1 ?side2 A16.out).mono ?_); (case side1 => exact cb HR0_1); (case side2 => exact HC0_1.out); rintro e w55 ⟨rfl, hb⟩; have n0_ := bkB BK103 hb; have n1_ := bkB BK105 hb; have n2_ := Aside0.mk (below_step bw hb); clear BK103 BK105 HB; have BK103 := n0_; have BK105 := n1_; have HB := n2_; clear n0_ n1_ n2_; (try clear hb); (try clear hb2); (try clear hk); (try clear hi); have hcz56_0 : w55.cell? ⟨gb105, 0, none⟩ = some (.int .i64 ((rd_T40 l0_1 x22_2).f0)) := (blk_cell BK105.out 0).trans rfl; have hcz56_1 : w55.cell? ⟨gb105, 1, none⟩ = some (.int .i64 ((rd_T40 l0_1 x22_2).f1)) := (blk_cell BK105.out 1).trans rfl; have hcz56_2 : w55.cell? ⟨gb105, 2, none⟩ = some (.int .i64 ((rd_T40 l0_1 x22_2).f2)) := (blk_cell BK105.out 2).trans rfl; have hfz56_0 := blk_frozen BK105.out 0; have hfz56_1 := blk_frozen BK105.out 1; have hfz56_2 := blk_frozen BK105.out 2; have TK3_ := Aside0.mk trivial))
              go_roundg k2
              case measure => have := HJ1.out; have := HK2.out; omega
              case rel => exact ⟨(wrap64 (x22_2 + 1)), (by first | rfl | (simp; done) | (simp [*]; done)), H', ⟨by have := HJ1.out; have := HK2.out; omega⟩, ⟨bk BK103⟩, ⟨bw⟩⟩
          ·replace c17 := Bool.eq_false_iff.mpr c17
           subst c17
           have H1 : (some false) = some r := by rw [if_neg (show ¬ (false = true) by decide)] at H; exact H
           clear H
           have H := H1
           clear H1
           obtain rfl := Option.some.inj H
           have p104 : 0 ≤ (x22_2 : Int) := of_decide_eq_true (by first | (with_reducible assumption) | assumption)
           have q104 : x22_2 < (l0_1.length : Int) := of_decide_eq_true (by first | (with_reducible assumption) | assumption)
           obtain ⟨ad104, e104, hx104_0, hx104_1, hx104_2⟩ := at_T40 HR0_1.out x22_2 p104 q104
           cases e104
           replace hx104_0 := (HB.out.cell (World.block_lt_of_cell? w _ hx104_0)).trans hx104_0
           replace hx104_1 := (HB.out.cell (World.block_lt_of_cell? w _ hx104_1)).trans hx104_1
           replace hx104_2 := (HB.out.cell (World.block_lt_of_cell? w _ hx104_2)).trans hx104_2
           replace p104 := eq_true p104
           replace q104 := eq_true q104
           have TK0_ := Aside0.mk trivial
           go_wp2_with (first | (clear TK0_; (with_reducible refine gate_dst (N := 4) rfl ?_); (try (refine gate_guard (by rfl) ?_; dsimp only)); refine box_event ?hg (N := 4) ?hd (cs := #[.int .i64 0, .int .i64 0, .int .i64 0]) (t := 40) ?hr ?_; (case hd => rfl); (case hg => rfl); (case hr => first | (go_simp; done) | (go_simp; rfl)); intro gb105 hg w57 hbox hb; have n0_ := bkB BK103 hb; have n1_ := Aside0.mk (below_step bw hb); have n2_ := Aside0.mk (hbox); have n3_ := Aside0.mk ((by rw [hg]; exact (below_size bw) : w.heap.size ≤ gb105)); have n4_ := Aside0.mk ((by rw [hg]; exact (below_size bw) : w.heap.size ≤ gb105)); have n5_ := Aside0.mk ((by rw [hg]; exact Nat.ne_of_lt (blk_lt (g := gb103) (o := .cells #[.int .i64 a0_0, .slice (some ad104) l0_1.length c0_1] 25 (0, 0)) (bk BK103)) : gb103 ≠ gb105)); have n6_ := Aside0.mk ((by rw [hg]; exact Nat.ne_of_gt (blk_lt (g := gb103) (o := .cells #[.int .i64 a0_0, .slice (some ad104) l0_1.length c0_1] 25 (0, 0)) (bk BK103)) : gb105 ≠ gb103)); clear BK103 HB; have BK103 := n0_; have HB := n1_; have BK105 := n2_; have GW105 := n3_; have GE105 := n4_; have NB103_105 := n5_; have NB105_103 := n6_; clear n0_ n1_ n2_ n3_ n4_ n5_ n6_; clear hb hbox hg; have hnb58 := NB105_103.out; have hnc58 := NB103_105.out; have hcz59_0 : w57.cell? ⟨gb105, 0, none⟩ = some (.int .i64 0) := (blk_cell BK105.out 0).trans rfl; have hcz59_1 : w57.cell? ⟨gb105, 1, none⟩ = some (.int .i64 0) := (blk_cell BK105.out 1).trans rfl; have hcz59_2 : w57.cell? ⟨gb105, 2, none⟩ = some (.int .i64 0) := (blk_cell BK105.out 2).trans rfl; have hfz59_0 := blk_frozen BK105.out 0; have hfz59_1 := blk_frozen BK105.out 1; have hfz59_2 := blk_frozen BK105.out 2; have hcz60_0 : w57.cell? ⟨gb103, 0, none⟩ = some (.int .i64 a0_0) := (blk_cell BK103.out 0).trans rfl; have hcz60_1 : w57.cell? ⟨gb103, 1, none⟩ = some (.slice (some ad104) l0_1.length c0_1) := (blk_cell BK103.out 1).trans rfl; have hfz60_0 := blk_frozen BK103.out 0; have hfz60_1 := blk_frozen BK103.out 1; have TK1_ := Aside0.mk trivial) | (clear TK1_; (with_reducible refine gate_callee (f := 82) rfl ?_); refine goesL_ (some 29) rfl rfl Tryd.func82 (by kernel_rfl) rfl #[.agg #[.int .i64 a0_0, .slice (some ad104) l0_1.length c0_1], .int .i64 ((rd_T40 l0_1 x22_2).f0)] rfl (by (try simp only [List.map_toArray, List.map_cons, List.map_nil]); first | done | rfl | (simp only [List.length_drop, List.length_take]; rfl)) ?_; (with_reducible refine (impl_Net_hasBus.calls a0_0 _ _ l0_1 ((rd_T40 l0_1 x22_2).f0) true _ ?side1 ?side2 A14.out).mono ?_); (case side1 => exact Kd.C_below HR0_1.out bw); (case side2 => exact HC0_1.out); rintro e w61 ⟨rfl, hb⟩; refine ⟨_, rfl, ?_⟩; have n0_ := Aside0.mk (blk_below (g := gb103) (o := .cells #[.int .i64 a0_0, .slice (some ad104) l0_1.length c0_1] 25 (0, 0)) (by (with_reducible repeat (first | refine blk_drewN ?_ _ | refine blk_drew ?_ | refine blk_alloc ?_ _)); refine blk_far ?_ NB103_105.out _; (with_reducible repeat (first | refine blk_drewN ?_ _ | refine blk_drew ?_ | refine blk_alloc ?_ _)); refine blk_far ?_ NB103_105.out _; (with_reducible repeat (first | refine blk_drewN ?_ _ | refine blk_drew ?_ | refine blk_alloc ?_ _)); refine blk_far ?_ NB103_105.out _; (with_reducible repeat (first | refine blk_drewN ?_ _ | refine blk_drew ?_ | refine blk_alloc ?_ _)); exact BK103.out) hb); have n1_ := Aside0.mk (blk_below (g := gb105) (o := .cells #[.int .i64 ((rd_T40 l0_1 x22_2).f0), .int .i64 ((rd_T40 l0_1 x22_2).f1), .int .i64 ((rd_T40 l0_1 x22_2).f2)] 40 (0, 0)) (by (with_reducible repeat (first | refine blk_drewN ?_ _ | refine blk_drew ?_ | refine blk_alloc ?_ _)); refine blk_put (cs := #[.int .i64 ((rd_T40 l0_1 x22_2).f0), .int .i64 ((rd_T40 l0_1 x22_2).f1), .int .i64 0]) ?_ 2 _ rfl; (with_reducible repeat (first | refine blk_drewN ?_ _ | refine blk_drew ?_ | refine blk_alloc ?_ _)); refine blk_put (cs := #[.int .i64 ((rd_T40 l0_1 x22_2).f0), .int .i64 0, .int .i64 0]) ?_ 1 _ rfl; (with_reducible repeat (first | refine blk_drewN ?_ _ | refine blk_drew ?_ | refine blk_alloc ?_ _)); refine blk_put (cs := #[.int .i64 0, .int .i64 0, .int .i64 0]) ?_ 0 _ rfl; (with_reducible repeat (first | refine blk_drewN ?_ _ | refine blk_drew ?_ | refine blk_alloc ?_ _)); exact BK105.out) hb); have n2_ := Aside0.mk (below_step bw hb); clear BK103 BK105 HB; have BK103 := n0_; have BK105 := n1_; have HB := n2_; clear n0_ n1_ n2_; (try clear hb); (try clear hb2); (try clear hk); (try clear hi); have hcz62_0 : w61.cell? ⟨gb103, 0, none⟩ = some (.int .i64 a0_0) := (blk_cell BK103.out 0).trans rfl; have hcz62_1 : w61.cell? ⟨gb103, 1, none⟩ = some (.slice (some ad104) l0_1.length c0_1) := (blk_cell BK103.out 1).trans rfl; have hfz62_0 := blk_frozen BK103.out 0; have hfz62_1 := blk_frozen BK103.out 1; have hcz63_0 : w61.cell? ⟨gb105, 0, none⟩ = some (.int .i64 ((rd_T40 l0_1 x22_2).f0)) := (blk_cell BK105.out 0).trans rfl; have hcz63_1 : w61.cell? ⟨gb105, 1, none⟩ = some (.int .i64 ((rd_T40 l0_1 x22_2).f1)) := (blk_cell BK105.out 1).trans rfl; have hcz63_2 : w61.cell? ⟨gb105, 2, none⟩ = some (.int .i64 ((rd_T40 l0_1 x22_2).f2)) := (blk_cell BK105.out 2).trans rfl; have hfz63_0 := blk_frozen BK105.out 0; have hfz63_1 := blk_frozen BK105.out 1; have hfz63_2 := blk_frozen BK105.out 2; have TK2_ := Aside0.mk trivial) | (clear TK2_; go_at_call 82; (with_reducible refine (impl_Net_hasBus.calls a0_0 _ _ l0_1 ((rd_T40 l0_1 x22_2).f1) false _ ?side1 ?side2 A16.out).mono ?_); (case side1 => exact cb HR0_1); (case side2 => exact HC0_1.out); rintro e w64 ⟨rfl, hb⟩; have n0_ := bkB BK103 hb; have n1_ := bkB BK105 hb; have n2_ := Aside0.mk (below_step bw hb); clear BK103 BK105 HB; have BK103 := n0_; have BK105 := n1_; have HB := n2_; clear n0_ n1_ n2_; (try clear hb); (try clear hb2); (try clear hk); (try clear hi); have TK3_ := Aside0.mk trivial))
           go_ret
           exact ⟨by first | rfl | (simp [errW_none, errW_some] <;> rfl) | (simp [*, errW_none, errW_some] <;> rfl), bw⟩
         ·replace c15 := Bool.eq_false_iff.mpr c15
          subst c15
          have H1 : (some false) = some r := by rw [if_neg (show ¬ (false = true) by decide)] at H; exact H
          clear H
          have H := H1
          clear H1
          obtain rfl := Option.some.inj H
          have p104 : 0 ≤ (x22_2 : Int) := of_decide_eq_true (by first | (with_reducible assumption) | assumption)
          have q104 : x22_2 < (l0_1.length : Int) := of_decide_eq_true (by first | (with_reducible assumption) | assumption)
          obtain ⟨ad104, e104, hx104_0, hx104_1, hx104_2⟩ := at_T40 HR0_1.out x22_2 p104 q104
          cases e104
          replace hx104_0 := (HB.out.cell (World.block_lt_of_cell? w _ hx104_0)).trans hx104_0
          replace hx104_1 := (HB.out.cell (World.block_lt_of_cell? w _ hx104_1)).trans hx104_1
          replace hx104_2 := (HB.out.cell (World.block_lt_of_cell? w _ hx104_2)).trans hx104_2
          replace p104 := eq_true p104
          replace q104 := eq_true q104
          go_wp2_with (first | ((with_reducible refine gate_dst (N := 4) rfl ?_); (try (refine gate_guard (by rfl) ?_; dsimp only)); refine box_event ?hg (N := 4) ?hd (cs := #[.int .i64 0, .int .i64 0, .int .i64 0]) (t := 40) ?hr ?_; (case hd => rfl); (case hg => rfl); (case hr => first | (go_simp; done) | (go_simp; rfl)); intro gb105 hg w65 hbox hb; have n0_ := bkB BK103 hb; have n1_ := Aside0.mk (below_step bw hb); have n2_ := Aside0.mk (hbox); have n3_ := Aside0.mk ((by rw [hg]; exact (below_size bw) : w.heap.size ≤ gb105)); have n4_ := Aside0.mk ((by rw [hg]; exact (below_size bw) : w.heap.size ≤ gb105)); have n5_ := Aside0.mk ((by rw [hg]; exact Nat.ne_of_lt (blk_lt (g := gb103) (o := .cells #[.int .i64 a0_0, .slice (some ad104) l0_1.length c0_1] 25 (0, 0)) (bk BK103)) : gb103 ≠ gb105)); have n6_ := Aside0.mk ((by rw [hg]; exact Nat.ne_of_gt (blk_lt (g := gb103) (o := .cells #[.int .i64 a0_0, .slice (some ad104) l0_1.length c0_1] 25 (0, 0)) (bk BK103)) : gb105 ≠ gb103)); clear BK103 HB; have BK103 := n0_; have HB := n1_; have BK105 := n2_; have GW105 := n3_; have GE105 := n4_; have NB103_105 := n5_; have NB105_103 := n6_; clear n0_ n1_ n2_ n3_ n4_ n5_ n6_; clear hb hbox hg; have hnb66 := NB105_103.out; have hnc66 := NB103_105.out; have hcz67_0 : w65.cell? ⟨gb105, 0, none⟩ = some (.int .i64 0) := (blk_cell BK105.out 0).trans rfl; have hcz67_1 : w65.cell? ⟨gb105, 1, none⟩ = some (.int .i64 0) := (blk_cell BK105.out 1).trans rfl; have hcz67_2 : w65.cell? ⟨gb105, 2, none⟩ = some (.int .i64 0) := (blk_cell BK105.out 2).trans rfl; have hfz67_0 := blk_frozen BK105.out 0; have hfz67_1 := blk_frozen BK105.out 1; have hfz67_2 := blk_frozen BK105.out 2; have hcz68_0 : w65.cell? ⟨gb103, 0, none⟩ = some (.int .i64 a0_0) := (blk_cell BK103.out 0).trans rfl; have hcz68_1 : w65.cell? ⟨gb103, 1, none⟩ = some (.slice (some ad104) l0_1.length c0_1) := (blk_cell BK103.out 1).trans rfl; have hfz68_0 := blk_frozen BK103.out 0; have hfz68_1 := blk_frozen BK103.out 1) | ((with_reducible refine gate_callee (f := 82) rfl ?_); refine goesL_ (some 29) rfl rfl Tryd.func82 (by kernel_rfl) rfl #[.agg #[.int .i64 a0_0, .slice (some ad104) l0_1.length c0_1], .int .i64 ((rd_T40 l0_1 x22_2).f0)] rfl (by (try simp only [List.map_toArray, List.map_cons, List.map_nil]); first | done | rfl | (simp only [List.length_drop, List.length_take]; rfl)) ?_; (with_reducible refine (impl_Net_hasBus.calls a0_0 _ _ l0_1 ((rd_T40 l0_1 x22_2).f0) false _ ?side1 ?side2 A14.out).mono ?_); (case side1 => exact Kd.C_below HR0_1.out bw); (case side2 => exact HC0_1.out); rintro e w69 ⟨rfl, hb⟩; refine ⟨_, rfl, ?_⟩; have n0_ := Aside0.mk (blk_below (g := gb103) (o := .cells #[.int .i64 a0_0, .slice (some ad104) l0_1.length c0_1] 25 (0, 0)) (by (with_reducible repeat (first | refine blk_drewN ?_ _ | refine blk_drew ?_ | refine blk_alloc ?_ _)); refine blk_far ?_ NB103_105.out _; (with_reducible repeat (first | refine blk_drewN ?_ _ | refine blk_drew ?_ | refine blk_alloc ?_ _)); refine blk_far ?_ NB103_105.out _; (with_reducible repeat (first | refine blk_drewN ?_ _ | refine blk_drew ?_ | refine blk_alloc ?_ _)); refine blk_far ?_ NB103_105.out _; (with_reducible repeat (first | refine blk_drewN ?_ _ | refine blk_drew ?_ | refine blk_alloc ?_ _)); exact BK103.out) hb); have n1_ := Aside0.mk (blk_below (g := gb105) (o := .cells #[.int .i64 ((rd_T40 l0_1 x22_2).f0), .int .i64 ((rd_T40 l0_1 x22_2).f1), .int .i64 ((rd_T40 l0_1 x22_2).f2)] 40 (0, 0)) (by (with_reducible repeat (first | refine blk_drewN ?_ _ | refine blk_drew ?_ | refine blk_alloc ?_ _)); refine blk_put (cs := #[.int .i64 ((rd_T40 l0_1 x22_2).f0), .int .i64 ((rd_T40 l0_1 x22_2).f1), .int .i64 0]) ?_ 2 _ rfl; (with_reducible repeat (first | refine blk_drewN ?_ _ | refine blk_drew ?_ | refine blk_alloc ?_ _)); refine blk_put (cs := #[.int .i64 ((rd_T40 l0_1 x22_2).f0), .int .i64 0, .int .i64 0]) ?_ 1 _ rfl; (with_reducible repeat (first | refine blk_drewN ?_ _ | refine blk_drew ?_ | refine blk_alloc ?_ _)); refine blk_put (cs := #[.int .i64 0, .int .i64 0, .int .i64 0]) ?_ 0 _ rfl; (with_reducible repeat (first | refine blk_drewN ?_ _ | refine blk_drew ?_ | refine blk_alloc ?_ _)); exact BK105.out) hb); have n2_ := Aside0.mk (below_step bw hb); clear BK103 BK105 HB; have BK103 := n0_; have BK105 := n1_; have HB := n2_; clear n0_ n1_ n2_; (try clear hb); (try clear hb2); (try clear hk); (try clear hi)))
          go_ret
          exact ⟨by first | rfl | (simp [errW_none, errW_some] <;> rfl) | (simp [*, errW_none, errW_some] <;> rfl), bw⟩
        ·rw [if_neg c13] at H
         exact absurd H (by simp)
       ·rw [if_neg c12] at H
        exact absurd H (by simp)
      ·rw [if_neg c11] at H
       have c11b0 : decide (x22_2 < (l0_1.length : Int)) = false := decide_eq_false c11
       clear c11
       obtain rfl := Option.some.inj H
       go_wp2
       go_ret
       exact ⟨by first | rfl | (simp [errW_none, errW_some] <;> rfl) | (simp [*, errW_none, errW_some] <;> rfl), bw⟩

/-! ### impl_Line_other: function 99 -/
def impl_Line_other.f (a0_0 : Int) (a0_1 : Int) (a0_2 : Int) (a1 : Int) : Option (Int) := if a1 = a0_0 then (some a0_1) else (if a1 = a0_1 then (some a0_0) else (some (-1)))
set_option maxHeartbeats 8000000 in
set_option maxRecDepth 100000 in
theorem impl_Line_other.calls (a0_0 : Int) (a0_1 : Int) (a0_2 : Int) (a1 : Int) (r : Int) (w : World) (h : impl_Line_other.f a0_0 a0_1 a0_2 a1 = some r) :
  Calls Tryd.prog 99 #[.agg #[.int .i64 a0_0, .int .i64 a0_1, .int .i64 a0_2], .int .i64 a1] w fun e w' => e = .returned (.int .i64 r) ∧ Below w.heap.size w w' := by
 have hu40 := Tryd.underlying40
 have HB := Aside0.mk (Below.refl w.heap.size w)
 have H : (if a1 = a0_0 then (some a0_1) else (if a1 = a0_1 then (some a0_0) else (some (-1)))) = some r := h
 clear h
 by_cases c3 : a1 = a0_0
 ·rw [if_pos c3] at H
  have c3b0 : (a1 == a0_0) = true := beq_iff_eq.mpr c3
  have c3b1 : (a1 != a0_0) = false := bne_eq_false_iff_eq.mpr c3
  clear c3
  obtain rfl := Option.some.inj H
  go_enter Tryd.func99, Tryd.ntmps99
  go_wp2_with (first | ((with_reducible refine gate_dst (N := 2) rfl ?_); refine box_event ?hg (N := 2) ?hd (cs := #[.int .i64 a0_0, .int .i64 a0_1, .int .i64 a0_2]) (t := 40) ?hr ?_; (case hd => rfl); (case hg => rfl); (case hr => first | (go_simp; done) | (go_simp; rfl)); intro gb108 hg w4 hbox hb; have n0_ := Aside0.mk (below_step bw hb); have n1_ := Aside0.mk (hbox); have n2_ := Aside0.mk ((by rw [hg]; exact (below_size bw) : w.heap.size ≤ gb108)); have n3_ := Aside0.mk ((by rw [hg]; exact (below_size bw) : w.heap.size ≤ gb108)); clear HB; have HB := n0_; have BK108 := n1_; have GW108 := n2_; have GE108 := n3_; clear n0_ n1_ n2_ n3_; clear hb hbox hg; have hcz5_0 : w4.cell? ⟨gb108, 0, none⟩ = some (.int .i64 a0_0) := (blk_cell BK108.out 0).trans rfl; have hcz5_1 : w4.cell? ⟨gb108, 1, none⟩ = some (.int .i64 a0_1) := (blk_cell BK108.out 1).trans rfl; have hcz5_2 : w4.cell? ⟨gb108, 2, none⟩ = some (.int .i64 a0_2) := (blk_cell BK108.out 2).trans rfl; have hfz5_0 := blk_frozen BK108.out 0; have hfz5_1 := blk_frozen BK108.out 1; have hfz5_2 := blk_frozen BK108.out 2))
  go_ret
  exact ⟨by first | rfl | (simp [errW_none, errW_some] <;> rfl) | (simp [*, errW_none, errW_some] <;> rfl), bw⟩
 ·rw [if_neg c3] at H
  have c3b0 : (a1 == a0_0) = false := beq_eq_false_iff_ne.mpr c3
  have c3b1 : (a1 != a0_0) = true := bne_iff_ne.mpr c3
  by_cases c6 : a1 = a0_1
  ·rw [if_pos c6] at H
   have c6b0 : (a1 == a0_1) = true := beq_iff_eq.mpr c6
   have c6b1 : (a1 != a0_1) = false := bne_eq_false_iff_eq.mpr c6
   clear c6
   obtain rfl := Option.some.inj H
   go_enter Tryd.func99, Tryd.ntmps99
   go_wp2_with (first | ((with_reducible refine gate_dst (N := 2) rfl ?_); refine box_event ?hg (N := 2) ?hd (cs := #[.int .i64 a0_0, .int .i64 a0_1, .int .i64 a0_2]) (t := 40) ?hr ?_; (case hd => rfl); (case hg => rfl); (case hr => first | (go_simp; done) | (go_simp; rfl)); intro gb108 hg w7 hbox hb; have n0_ := Aside0.mk (below_step bw hb); have n1_ := Aside0.mk (hbox); have n2_ := Aside0.mk ((by rw [hg]; exact (below_size bw) : w.heap.size ≤ gb108)); have n3_ := Aside0.mk ((by rw [hg]; exact (below_size bw) : w.heap.size ≤ gb108)); clear HB; have HB := n0_; have BK108 := n1_; have GW108 := n2_; have GE108 := n3_; clear n0_ n1_ n2_ n3_; clear hb hbox hg; have hcz8_0 : w7.cell? ⟨gb108, 0, none⟩ = some (.int .i64 a0_0) := (blk_cell BK108.out 0).trans rfl; have hcz8_1 : w7.cell? ⟨gb108, 1, none⟩ = some (.int .i64 a0_1) := (blk_cell BK108.out 1).trans rfl; have hcz8_2 : w7.cell? ⟨gb108, 2, none⟩ = some (.int .i64 a0_2) := (blk_cell BK108.out 2).trans rfl; have hfz8_0 := blk_frozen BK108.out 0; have hfz8_1 := blk_frozen BK108.out 1; have hfz8_2 := blk_frozen BK108.out 2))
   go_ret
   exact ⟨by first | rfl | (simp [errW_none, errW_some] <;> rfl) | (simp [*, errW_none, errW_some] <;> rfl), bw⟩
  ·rw [if_neg c6] at H
   have c6b0 : (a1 == a0_1) = false := beq_eq_false_iff_ne.mpr c6
   have c6b1 : (a1 != a0_1) = true := bne_iff_ne.mpr c6
   obtain rfl := Option.some.inj H
   go_enter Tryd.func99, Tryd.ntmps99
   go_wp2_with (first | ((with_reducible refine gate_dst (N := 2) rfl ?_); refine box_event ?hg (N := 2) ?hd (cs := #[.int .i64 a0_0, .int .i64 a0_1, .int .i64 a0_2]) (t := 40) ?hr ?_; (case hd => rfl); (case hg => rfl); (case hr => first | (go_simp; done) | (go_simp; rfl)); intro gb108 hg w9 hbox hb; have n0_ := Aside0.mk (below_step bw hb); have n1_ := Aside0.mk (hbox); have n2_ := Aside0.mk ((by rw [hg]; exact (below_size bw) : w.heap.size ≤ gb108)); have n3_ := Aside0.mk ((by rw [hg]; exact (below_size bw) : w.heap.size ≤ gb108)); clear HB; have HB := n0_; have BK108 := n1_; have GW108 := n2_; have GE108 := n3_; clear n0_ n1_ n2_ n3_; clear hb hbox hg; have hcz10_0 : w9.cell? ⟨gb108, 0, none⟩ = some (.int .i64 a0_0) := (blk_cell BK108.out 0).trans rfl; have hcz10_1 : w9.cell? ⟨gb108, 1, none⟩ = some (.int .i64 a0_1) := (blk_cell BK108.out 1).trans rfl; have hcz10_2 : w9.cell? ⟨gb108, 2, none⟩ = some (.int .i64 a0_2) := (blk_cell BK108.out 2).trans rfl; have hfz10_0 := blk_frozen BK108.out 0; have hfz10_1 := blk_frozen BK108.out 1; have hfz10_2 := blk_frozen BK108.out 2))
   go_ret
   exact ⟨by first | rfl | (simp [errW_none, errW_some] <;> rfl) | (simp [*, errW_none, errW_some] <;> rfl), bw⟩

/-! ### impl_OtherEnd: function 41 -/
def impl_OtherEnd.f (k : Nat) (a0_0 : Int) (l0_1 : List (S40)) (a1 : Int) (a2 : Int) : Option (Int) := (impl_NetValid.f k a0_0 l0_1).bind fun t110 => (if t110 = true then ((impl_Net_hasLine.f a0_0 l0_1 a1).bind fun t111 => (if t111 = true then (if 0 ≤ a1 then (if a1 < (l0_1.length : Int) then ((impl_Line_other.f ((rd_T40 l0_1 a1).f0) ((rd_T40 l0_1 a1).f1) ((rd_T40 l0_1 a1).f2) a2).bind fun t113 => (some t113)) else (none)) else (none)) else (some (-1)))) else (some (-1)))
theorem impl_OtherEnd.mono : ∀ a0 a1 a2 a3 k, LeO (impl_OtherEnd.f k a0 a1 a2 a3) (impl_OtherEnd.f (k + 1) a0 a1 a2 a3) := by
 intro a0 a1 a2 a3 k
 unfold impl_OtherEnd.f
 repeat' first
   | (with_reducible exact impl_NetValid.mono _ _ _)
   | (with_reducible exact LeO.refl _)
   | (with_reducible exact LeO.none _)
   | (with_reducible refine LeO.ite ?_ ?_)
   | (with_reducible refine LeO.bind ?_ (fun _ => ?_))
   | exact impl_NetValid.mono _ _ _
   | exact LeO.none _
   | refine LeO.ite ?_ ?_
   | refine LeO.bind ?_ (fun _ => ?_)
set_option maxHeartbeats 8000000 in
set_option maxRecDepth 100000 in
theorem impl_OtherEnd.calls (k : Nat) (a0_0 : Int) (A0_1 : Option Addr) (c0_1 : Nat) (l0_1 : List (S40)) (a1 : Int) (a2 : Int) (r : Int) (w : World) (hr0_1 : Kd.C k40 w A0_1 l0_1.length l0_1) (hc0_1 : l0_1.length ≤ c0_1) (h : impl_OtherEnd.f k a0_0 l0_1 a1 a2 = some r) :
  Calls Tryd.prog 41 #[.agg #[.int .i64 a0_0, .slice A0_1 l0_1.length c0_1], .int .i64 a1, .int .i64 a2] w fun e w' => e = .returned (.int .i64 r) ∧ Below w.heap.size w w' := by
 have hu25 := Tryd.underlying25
 have hu40 := Tryd.underlying40
 have HR0_1 := Aside0.mk hr0_1
 have HC0_1 := Aside0.mk hc0_1
 clear hr0_1 hc0_1
 have HB := Aside0.mk (Below.refl w.heap.size w)
 have H : ((impl_NetValid.f k a0_0 l0_1).bind fun t110 => (if t110 = true then ((impl_Net_hasLine.f a0_0 l0_1 a1).bind fun t111 => (if t111 = true then (if 0 ≤ a1 then (if a1 < (l0_1.length : Int) then ((impl_Line_other.f ((rd_T40 l0_1 a1).f0) ((rd_T40 l0_1 a1).f1) ((rd_T40 l0_1 a1).f2) a2).bind fun t113 => (some t113)) else (none)) else (none)) else (some (-1)))) else (some (-1)))) = some r := h
 clear h
 replace H := Option.bind_eq_some_iff.mp H
 obtain ⟨t110, A40, H⟩ := H
 replace H : (if t110 = true then ((impl_Net_hasLine.f a0_0 l0_1 a1).bind fun t111 => (if t111 = true then (if 0 ≤ a1 then (if a1 < (l0_1.length : Int) then ((impl_Line_other.f ((rd_T40 l0_1 a1).f0) ((rd_T40 l0_1 a1).f1) ((rd_T40 l0_1 a1).f2) a2).bind fun t113 => (some t113)) else (none)) else (none)) else (some (-1)))) else (some (-1))) = some r := H
 have A4 := Aside0.mk A40
 clear A40
 by_cases c5 : t110 = true
 ·subst c5
  have H1 : ((impl_Net_hasLine.f a0_0 l0_1 a1).bind fun t111 => (if t111 = true then (if 0 ≤ a1 then (if a1 < (l0_1.length : Int) then ((impl_Line_other.f ((rd_T40 l0_1 a1).f0) ((rd_T40 l0_1 a1).f1) ((rd_T40 l0_1 a1).f2) a2).bind fun t113 => (some t113)) else (none)) else (none)) else (some (-1)))) = some r := by rw [if_pos rfl] at H; exact H
  clear H
  have H := H1
  clear H1
  replace H := Option.bind_eq_some_iff.mp H
  obtain ⟨t111, A60, H⟩ := H
  replace H : (if t111 = true then (if 0 ≤ a1 then (if a1 < (l0_1.length : Int) then ((impl_Line_other.f ((rd_T40 l0_1 a1).f0) ((rd_T40 l0_1 a1).f1) ((rd_T40 l0_1 a1).f2) a2).bind fun t113 => (some t113)) else (none)) else (none)) else (some (-1))) = some r := H
  have A6 := Aside0.mk A60
  clear A60
  by_cases c7 : t111 = true
  ·subst c7
   have H1 : (if 0 ≤ a1 then (if a1 < (l0_1.length : Int) then ((impl_Line_other.f ((rd_T40 l0_1 a1).f0) ((rd_T40 l0_1 a1).f1) ((rd_T40 l0_1 a1).f2) a2).bind fun t113 => (some t113)) else (none)) else (none)) = some r := by rw [if_pos rfl] at H; exact H
   clear H
   have H := H1
   clear H1
   by_cases c8 : 0 ≤ a1
   ·rw [if_pos c8] at H
    have c8b0 : decide (0 ≤ a1) = true := decide_eq_true c8
    clear c8
    by_cases c9 : a1 < (l0_1.length : Int)
    ·rw [if_pos c9] at H
     have c9b0 : decide (a1 < (l0_1.length : Int)) = true := decide_eq_true c9
     clear c9
     replace H := Option.bind_eq_some_iff.mp H
     obtain ⟨t113, A100, H⟩ := H
     replace H : (some t113) = some r := H
     have A10 := Aside0.mk A100
     clear A100
     obtain rfl := Option.some.inj H
     go_enter Tryd.func41, Tryd.ntmps41
     have TK0_ := Aside0.mk trivial
     go_wp2_with (first | (clear TK0_; (with_reducible refine gate_dst (N := 3) rfl ?_); refine box_event ?hg (N := 3) ?hd (cs := #[.int .i64 a0_0, .slice A0_1 l0_1.length c0_1]) (t := 25) ?hr ?_; (case hd => rfl); (case hg => rfl); (case hr => first | (go_simp; done) | (go_simp; rfl)); intro gb109 hg w11 hbox hb; have n0_ := Aside0.mk (below_step bw hb); have n1_ := Aside0.mk (hbox); have n2_ := Aside0.mk ((by rw [hg]; exact (below_size bw) : w.heap.size ≤ gb109)); have n3_ := Aside0.mk ((by rw [hg]; exact (below_size bw) : w.heap.size ≤ gb109)); clear HB; have HB := n0_; have BK109 := n1_; have GW109 := n2_; have GE109 := n3_; clear n0_ n1_ n2_ n3_; clear hb hbox hg; have hcz12_0 : w11.cell? ⟨gb109, 0, none⟩ = some (.int .i64 a0_0) := (blk_cell BK109.out 0).trans rfl; have hcz12_1 : w11.cell? ⟨gb109, 1, none⟩ = some (.slice A0_1 l0_1.length c0_1) := (blk_cell BK109.out 1).trans rfl; have hfz12_0 := blk_frozen BK109.out 0; have hfz12_1 := blk_frozen BK109.out 1; have TK1_ := Aside0.mk trivial) | (clear TK1_; (with_reducible refine gate_callee (f := 98) rfl ?_); refine goesL_ (some 8) rfl rfl Tryd.func98 (by kernel_rfl) rfl #[.agg #[.int .i64 a0_0, .slice A0_1 l0_1.length c0_1]] rfl (by (try simp only [List.map_toArray, List.map_cons, List.map_nil]); first | done | rfl | (simp only [List.length_drop, List.length_take]; rfl)) ?_; (with_reducible refine (impl_NetValid.calls k a0_0 _ _ l0_1 true _ ?side1 ?side2 A4.out).mono ?_); (case side1 => exact cb HR0_1); (case side2 => exact HC0_1.out); rintro e w13 ⟨rfl, hb⟩; refine ⟨_, rfl, ?_⟩; have n0_ := bkB BK109 hb; have n1_ := Aside0.mk (below_step bw hb); clear BK109 HB; have BK109 := n0_; have HB := n1_; clear n0_ n1_; (try clear hb); (try clear hb2); (try clear hk); (try clear hi); have hcz14_0 : w13.cell? ⟨gb109, 0, none⟩ = some (.int .i64 a0_0) := (blk_cell BK109.out 0).trans rfl; have hcz14_1 : w13.cell? ⟨gb109, 1, none⟩ = some (.slice A0_1 l0_1.length c0_1) := (blk_cell BK109.out 1).trans rfl; have hfz14_0 := blk_frozen BK109.out 0; have hfz14_1 := blk_frozen BK109.out 1; have TK2_ := Aside0.mk trivial) | (clear TK2_; go_at_call 88; (with_reducible refine (impl_Net_hasLine.calls a0_0 _ _ l0_1 a1 true _ ?side1 ?side2 A6.out).mono ?_); (case side1 => exact cb HR0_1); (case side2 => exact HC0_1.out); rintro e w15 ⟨rfl, hb⟩; have n0_ := bkB BK109 hb; have n1_ := Aside0.mk (below_step bw hb); clear BK109 HB; have BK109 := n0_; have HB := n1_; clear n0_ n1_; (try clear hb); (try clear hb2); (try clear hk); (try clear hi); have hcz16_0 : w15.cell? ⟨gb109, 0, none⟩ = some (.int .i64 a0_0) := (blk_cell BK109.out 0).trans rfl; have hcz16_1 : w15.cell? ⟨gb109, 1, none⟩ = some (.slice A0_1 l0_1.length c0_1) := (blk_cell BK109.out 1).trans rfl; have hfz16_0 := blk_frozen BK109.out 0; have hfz16_1 := blk_frozen BK109.out 1; have p112 : 0 ≤ (a1 : Int) := of_decide_eq_true (by first | (with_reducible assumption) | assumption); have q112 : a1 < (l0_1.length : Int) := of_decide_eq_true (by first | (with_reducible assumption) | assumption); obtain ⟨ad112, e112, hx112_0, hx112_1, hx112_2⟩ := at_T40 HR0_1.out a1 p112 q112; cases e112; replace hx112_0 := (HB.out.cell (World.block_lt_of_cell? w _ hx112_0)).trans hx112_0; replace hx112_1 := (HB.out.cell (World.block_lt_of_cell? w _ hx112_1)).trans hx112_1; replace hx112_2 := (HB.out.cell (World.block_lt_of_cell? w _ hx112_2)).trans hx112_2; replace p112 := eq_true p112; replace q112 := eq_true q112; have TK3_ := Aside0.mk trivial) | (clear TK3_; (with_reducible refine gate_callee (f := 99) rfl ?_); refine goesL_ (some 22) rfl rfl Tryd.func99 (by kernel_rfl) rfl #[.agg #[.int .i64 ((rd_T40 l0_1 a1).f0), .int .i64 ((rd_T40 l0_1 a1).f1), .int .i64 ((rd_T40 l0_1 a1).f2)], .int .i64 a2] rfl (by (try simp only [List.map_toArray, List.map_cons, List.map_nil]); first | done | rfl | (simp only [List.length_drop, List.length_take]; rfl)) ?_; (with_reducible refine (impl_Line_other.calls ((rd_T40 l0_1 a1).f0) ((rd_T40 l0_1 a1).f1) ((rd_T40 l0_1 a1).f2) a2 t113 _ A10.out).mono ?_); rintro e w17 ⟨rfl, hb⟩; refine ⟨_, rfl, ?_⟩; have n0_ := bkB BK109 hb; have n1_ := Aside0.mk (below_step bw hb); clear BK109 HB; have BK109 := n0_; have HB := n1_; clear n0_ n1_; (try clear hb); (try clear hb2); (try clear hk); (try clear hi); have TK4_ := Aside0.mk trivial))
     go_ret
     exact ⟨by first | rfl | (simp [errW_none, errW_some] <;> rfl) | (simp [*, errW_none, errW_some] <;> rfl), bw⟩
    ·rw [if_neg c9] at H
     exact absurd H (by simp)
   ·rw [if_neg c8] at H
    exact absurd H (by simp)
  ·replace c7 := Bool.eq_false_iff.mpr c7
   subst c7
   have H1 : (some (-1)) = some r := by rw [if_neg (show ¬ (false = true) by decide)] at H; exact H
   clear H
   have H := H1
   clear H1
   obtain rfl := Option.some.inj H
   go_enter Tryd.func41, Tryd.ntmps41
   have TK0_ := Aside0.mk trivial
   go_wp2_with (first | (clear TK0_; (with_reducible refine gate_dst (N := 3) rfl ?_); refine box_event ?hg (N := 3) ?hd (cs := #[.int .i64 a0_0, .slice A0_1 l0_1.length c0_1]) (t := 25) ?hr ?_; (case hd => rfl); (case hg => rfl); (case hr => first | (go_simp; done) | (go_simp; rfl)); intro gb109 hg w18 hbox hb; have n0_ := Aside0.mk (below_step bw hb); have n1_ := Aside0.mk (hbox); have n2_ := Aside0.mk ((by rw [hg]; exact (below_size bw) : w.heap.size ≤ gb109)); have n3_ := Aside0.mk ((by rw [hg]; exact (below_size bw) : w.heap.size ≤ gb109)); clear HB; have HB := n0_; have BK109 := n1_; have GW109 := n2_; have GE109 := n3_; clear n0_ n1_ n2_ n3_; clear hb hbox hg; have hcz19_0 : w18.cell? ⟨gb109, 0, none⟩ = some (.int .i64 a0_0) := (blk_cell BK109.out 0).trans rfl; have hcz19_1 : w18.cell? ⟨gb109, 1, none⟩ = some (.slice A0_1 l0_1.length c0_1) := (blk_cell BK109.out 1).trans rfl; have hfz19_0 := blk_frozen BK109.out 0; have hfz19_1 := blk_frozen BK109.out 1; have TK1_ := Aside0.mk trivial) | (clear TK1_; (with_reducible refine gate_callee (f := 98) rfl ?_); refine goesL_ (some 8) rfl rfl Tryd.func98 (by kernel_rfl) rfl #[.agg #[.int .i64 a0_0, .slice A0_1 l0_1.length c0_1]] rfl (by (try simp only [List.map_toArray, List.map_cons, List.map_nil]); first | done | rfl | (simp only [List.length_drop, List.length_take]; rfl)) ?_; (with_reducible refine (impl_NetValid.calls k a0_0 _ _ l0_1 true _ ?side1 ?side2 A4.out).mono ?_); (case side1 => exact cb HR0_1); (case side2 => exact HC0_1.out); rintro e w20 ⟨rfl, hb⟩; refine ⟨_, rfl, ?_⟩; have n0_ := bkB BK109 hb; have n1_ := Aside0.mk (below_step bw hb); clear BK109 HB; have BK109 := n0_; have HB := n1_; clear n0_ n1_; (try clear hb); (try clear hb2); (try clear hk); (try clear hi); have hcz21_0 : w20.cell? ⟨gb109, 0, none⟩ = some (.int .i64 a0_0) := (blk_cell BK109.out 0).trans rfl; have hcz21_1 : w20.cell? ⟨gb109, 1, none⟩ = some (.slice A0_1 l0_1.length c0_1) := (blk_cell BK109.out 1).trans rfl; have hfz21_0 := blk_frozen BK109.out 0; have hfz21_1 := blk_frozen BK109.out 1; have TK2_ := Aside0.mk trivial) | (clear TK2_; go_at_call 88; (with_reducible refine (impl_Net_hasLine.calls a0_0 _ _ l0_1 a1 false _ ?side1 ?side2 A6.out).mono ?_); (case side1 => exact cb HR0_1); (case side2 => exact HC0_1.out); rintro e w22 ⟨rfl, hb⟩; have n0_ := bkB BK109 hb; have n1_ := Aside0.mk (below_step bw hb); clear BK109 HB; have BK109 := n0_; have HB := n1_; clear n0_ n1_; (try clear hb); (try clear hb2); (try clear hk); (try clear hi); have TK3_ := Aside0.mk trivial))
   go_ret
   exact ⟨by first | rfl | (simp [errW_none, errW_some] <;> rfl) | (simp [*, errW_none, errW_some] <;> rfl), bw⟩
 ·replace c5 := Bool.eq_false_iff.mpr c5
  subst c5
  have H1 : (some (-1)) = some r := by rw [if_neg (show ¬ (false = true) by decide)] at H; exact H
  clear H
  have H := H1
  clear H1
  obtain rfl := Option.some.inj H
  go_enter Tryd.func41, Tryd.ntmps41
  go_wp2_with (first | ((with_reducible refine gate_dst (N := 3) rfl ?_); refine box_event ?hg (N := 3) ?hd (cs := #[.int .i64 a0_0, .slice A0_1 l0_1.length c0_1]) (t := 25) ?hr ?_; (case hd => rfl); (case hg => rfl); (case hr => first | (go_simp; done) | (go_simp; rfl)); intro gb109 hg w23 hbox hb; have n0_ := Aside0.mk (below_step bw hb); have n1_ := Aside0.mk (hbox); have n2_ := Aside0.mk ((by rw [hg]; exact (below_size bw) : w.heap.size ≤ gb109)); have n3_ := Aside0.mk ((by rw [hg]; exact (below_size bw) : w.heap.size ≤ gb109)); clear HB; have HB := n0_; have BK109 := n1_; have GW109 := n2_; have GE109 := n3_; clear n0_ n1_ n2_ n3_; clear hb hbox hg; have hcz24_0 : w23.cell? ⟨gb109, 0, none⟩ = some (.int .i64 a0_0) := (blk_cell BK109.out 0).trans rfl; have hcz24_1 : w23.cell? ⟨gb109, 1, none⟩ = some (.slice A0_1 l0_1.length c0_1) := (blk_cell BK109.out 1).trans rfl; have hfz24_0 := blk_frozen BK109.out 0; have hfz24_1 := blk_frozen BK109.out 1) | ((with_reducible refine gate_callee (f := 98) rfl ?_); refine goesL_ (some 8) rfl rfl Tryd.func98 (by kernel_rfl) rfl #[.agg #[.int .i64 a0_0, .slice A0_1 l0_1.length c0_1]] rfl (by (try simp only [List.map_toArray, List.map_cons, List.map_nil]); first | done | rfl | (simp only [List.length_drop, List.length_take]; rfl)) ?_; (with_reducible refine (impl_NetValid.calls k a0_0 _ _ l0_1 false _ ?side1 ?side2 A4.out).mono ?_); (case side1 => exact cb HR0_1); (case side2 => exact HC0_1.out); rintro e w25 ⟨rfl, hb⟩; refine ⟨_, rfl, ?_⟩; have n0_ := bkB BK109 hb; have n1_ := Aside0.mk (below_step bw hb); clear BK109 HB; have BK109 := n0_; have HB := n1_; clear n0_ n1_; (try clear hb); (try clear hb2); (try clear hk); (try clear hi)))
  go_ret
  exact ⟨by first | rfl | (simp [errW_none, errW_some] <;> rfl) | (simp [*, errW_none, errW_some] <;> rfl), bw⟩

-- NOT PRINTED: function 149 (abi_NoEscape)

-- NOT PRINTED: function 142 (strings_Builder_copyCheck)

-- NOT PRINTED: function 117 (strings_Builder_WriteString)

-- NOT PRINTED: function 152 (strconv_small)

-- NOT PRINTED: function 156 (strconv_log10Pow2)

-- NOT PRINTED: function 157 (bits_Len64)

-- NOT PRINTED: function 158 (strconv_bool2_int)

-- NOT PRINTED: function 153 (strconv_numDigits)

-- NOT PRINTED: function 154 (strconv_formatBase10)

-- NOT PRINTED: function 159 (strconv_isPowerOfTwo)

-- NOT PRINTED: function 161 (bits_TrailingZeros32)

-- NOT PRINTED: function 162 (bits_TrailingZeros64)

-- NOT PRINTED: function 160 (bits_TrailingZeros)

-- NOT PRINTED: function 155 (strconv_formatBits)

-- NOT PRINTED: function 150 (strconv_FormatInt)

-- NOT PRINTED: function 143 (strconv_Itoa_143)

-- NOT PRINTED: function 118 (strconv_Itoa_118)

-- NOT PRINTED: function 119 (strings_Builder_String)

/-! ### impl_NetText: function 77 -/
def impl_NetText.f (k : Nat) (a0_0 : Int) (l0_1 : List (S40)) : Option (ByteArray) := (impl_NetValid.f k a0_0 l0_1).bind fun t => if t = true then none else some ByteArray.empty
theorem impl_NetText.mono : ∀ a0 a1 k, LeO (impl_NetText.f k a0 a1) (impl_NetText.f (k + 1) a0 a1) := by
 intro a0 a1 k
 unfold impl_NetText.f
 exact LeO.bind (impl_NetValid.mono _ _ _) (fun _ => LeO.refl _)
set_option maxHeartbeats 2000000 in
set_option maxRecDepth 100000 in
/-- Of a network that is not valid there is no text: what the function answers for the others is not told here. -/
theorem impl_NetText.calls (k : Nat) (a0_0 : Int) (A0_1 : Option Addr) (c0_1 : Nat) (l0_1 : List (S40)) (r : ByteArray) (w : World) (hr0_1 : Kd.C k40 w A0_1 l0_1.length l0_1) (hc0_1 : l0_1.length ≤ c0_1) (h : impl_NetText.f k a0_0 l0_1 = some r) :
  Calls Tryd.prog 77 #[.agg #[.int .i64 a0_0, .slice A0_1 l0_1.length c0_1]] w fun e w' => e = .returned (.string r) ∧ Below w.heap.size w w' := by
 have hu25 := Tryd.underlying25
 have hu40 := Tryd.underlying40
 have HR0_1 := Aside0.mk hr0_1
 have HC0_1 := Aside0.mk hc0_1
 clear hr0_1 hc0_1
 have HB := Aside0.mk (Below.refl w.heap.size w)
 obtain ⟨t, ht, h⟩ := Option.bind_eq_some_iff.mp h
 cases t with
 | true => simp at h
 | false =>
  simp only [Bool.false_eq_true, if_false, Option.some.injEq] at h
  subst h
  have A4 := Aside0.mk ht
  clear ht
  go_enter Tryd.func77, Tryd.ntmps77
  go_wp2_with (first | ((with_reducible refine gate_dst (N := 1) rfl ?_); refine box_event ?hg (N := 1) ?hd (cs := #[.int .i64 a0_0, .slice A0_1 l0_1.length c0_1]) (t := 25) ?hr ?_; (case hd => rfl); (case hg => rfl); (case hr => first | (go_simp; done) | (go_simp; rfl)); intro gb109 hg w11 hbox hb; have n0_ := Aside0.mk (below_step HB.out hb); have GE109 := Aside0.mk ((by rw [hg]; exact (below_size HB.out)) : w.heap.size ≤ gb109); have BK109 := Aside0.mk hbox; clear HB; have HB := n0_; clear n0_ hb hbox hg; have hcz0 : w11.cell? ⟨gb109, 0, none⟩ = some (.int .i64 a0_0) := (blk_cell BK109.out 0).trans rfl; have hcz1 : w11.cell? ⟨gb109, 1, none⟩ = some (.slice A0_1 l0_1.length c0_1) := (blk_cell BK109.out 1).trans rfl; have hfz0 := blk_frozen BK109.out 0; have hfz1 := blk_frozen BK109.out 1) | (go_at_call 98; refine (impl_NetValid.calls k a0_0 _ _ l0_1 false _ (by repeat (first | exact (Kd.C_below HR0_1.out HB.out) | (with_reducible refine Kd.C_alloc ?_ _) | (with_reducible refine Kd.C_drewN ?_ _) | (with_reducible refine Kd.C_drew ?_))) HC0_1.out A4.out).mono ?_; rintro e w13 ⟨rfl, hb⟩; have n0_ := Aside0.mk (below_step HB.out hb); clear HB; have HB := n0_; clear n0_ hb))
  go_ret
  exact ⟨by first | rfl | (simp; done), bw⟩

/-! ### laws_alive: function 21 -/
def laws_alive.f (k : Nat)  : Option (Bool) := (impl_OtherEnd.f k 2 (([(⟨0, 1, 1⟩ : S40)] : List (S40))) 0 0).bind fun t117 => (if t117 = 1 then ((impl_NetText.f k 0 ([] : List (S40))).bind fun t118 => (some (t118.toList == ([] : List UInt8)))) else (some false))
theorem laws_alive.mono : ∀ k, LeO (laws_alive.f k ) (laws_alive.f (k + 1) ) := by
 intro  k
 unfold laws_alive.f
 repeat' first
   | (with_reducible exact impl_NetText.mono _ _ _)
   | (with_reducible exact impl_OtherEnd.mono _ _ _ _ _)
   | (with_reducible exact LeO.refl _)
   | (with_reducible exact LeO.none _)
   | (with_reducible refine LeO.ite ?_ ?_)
   | (with_reducible refine LeO.bind ?_ (fun _ => ?_))
   | exact impl_NetText.mono _ _ _
   | exact impl_OtherEnd.mono _ _ _ _ _
   | exact LeO.none _
   | refine LeO.ite ?_ ?_
   | refine LeO.bind ?_ (fun _ => ?_)
set_option maxHeartbeats 8000000 in
set_option maxRecDepth 100000 in
theorem laws_alive.calls (k : Nat)  (r : Bool) (w : World) (h : laws_alive.f k  = some r) :
  Calls Tryd.prog 21 #[] w fun e w' => e = .returned (.bool r) ∧ Below w.heap.size w w' := by
 have hu40 := Tryd.underlying40
 have hu25 := Tryd.underlying25
 have HB := Aside0.mk (Below.refl w.heap.size w)
 have H : ((impl_OtherEnd.f k 2 (([(⟨0, 1, 1⟩ : S40)] : List (S40))) 0 0).bind fun t117 => (if t117 = 1 then ((impl_NetText.f k 0 ([] : List (S40))).bind fun t118 => (some (t118.toList == ([] : List UInt8)))) else (some false))) = some r := h
 clear h
 obtain ⟨y114, hy114⟩ : ∃ y_ : List (S40), y_ = (([(⟨0, 1, 1⟩ : S40)] : List (S40))) := ⟨_, rfl⟩
 replace H : ((impl_OtherEnd.f k 2 y114 0 0).bind fun t117 => (if t117 = 1 then ((impl_NetText.f k 0 ([] : List (S40))).bind fun t118 => (some (t118.toList == ([] : List UInt8)))) else (some false))) = some r := by first | (rw [hy114]; with_reducible exact H) | (have H2_ := (Option.bind_some _ _).symm.trans H; rw [hy114]; with_reducible exact H2_) | (have H2_ := (Option.bind_some _ _).symm.trans H; with_reducible exact H2_) | with_reducible exact H | (rw [hy114]; exact H) | exact H
 have Ny114 := Aside0.mk hy114
 clear hy114
 replace H := Option.bind_eq_some_iff.mp H
 obtain ⟨t117, A10, H⟩ := H
 replace H : (if t117 = 1 then ((impl_NetText.f k 0 ([] : List (S40))).bind fun t118 => (some (t118.toList == ([] : List UInt8)))) else (some false)) = some r := H
 have A1 := Aside0.mk A10
 clear A10
 by_cases c2 : t117 = 1
 ·rw [if_pos c2] at H
  have c2b0 : (t117 == 1) = true := beq_iff_eq.mpr c2
  have c2b1 : (t117 != 1) = false := bne_eq_false_iff_eq.mpr c2
  clear c2
  replace H := Option.bind_eq_some_iff.mp H
  obtain ⟨t118, A30, H⟩ := H
  replace H : (some (t118.toList == ([] : List UInt8))) = some r := H
  have A3 := Aside0.mk A30
  clear A30
  obtain rfl := Option.some.inj H
  go_enter Tryd.func21, Tryd.ntmps21
  have TK0_ := Aside0.mk trivial
  go_wp2_with (first | (clear TK0_; (with_reducible refine gate_dst (N := 2) rfl ?_); refine Kd.R_lit k40 _ 40 ?hg (N := 2) ?hd (xs := ([(⟨0, 1, 1⟩ : S40)] : List (S40))) (inner := [.int .i64 0, .int .i64 1, .int .i64 1]) (ok := fun _ => True) (okp := fun _ => True) ?hr ?hp (fun _ hk => by first | exact hk | grind) trivial (Below.refl _ _) (Nat.le_refl _) (by simp) ?_; (case hd => rfl); (case hg => rfl); (case hr => first | (go_simp; done) | (go_simp; rfl)); (case hp => exact (Reps.c3 (show Kd.M k40 _ _ _ (⟨0, 1, 1⟩ : S40) [.int .i64 0, .int .i64 1, .int .i64 1] from (k40_mkM _ _ _ (⟨0, 1, 1⟩ : S40) )) (Reps.none _ _))); intro v115 w4 ho5 hb hg_ hnew_; clear hg_ hnew_; (first | rw [← Ny114.out] at ho5 | (simp only [Int.reduceToNat] at ho5; rw [← Ny114.out] at ho5)); have n0_ := Aside0.mk (Kd.R_lower ho5 (below_size bw)); have n1_ := Aside0.mk (below_step bw hb); clear HB; have HO116 := n0_; have HB := n1_; clear n0_ n1_; clear hb ho5; obtain ⟨Ao6, co6, eo6⟩ := Kd.R_slice HO116.out; subst eo6; have TK1_ := Aside0.mk trivial) | (clear TK1_; (with_reducible refine gate_callee (f := 41) rfl ?_); refine goesL_ (some 4) rfl rfl Tryd.func41 (by kernel_rfl) rfl #[.agg #[.int .i64 2, .slice Ao6 y114.length co6], .int .i64 0, .int .i64 0] rfl (by (try simp only [List.map_toArray, List.map_cons, List.map_nil]); first | done | rfl | (simp only [List.length_drop, List.length_take]; rfl)) ?_; (with_reducible refine (impl_OtherEnd.calls k 2 _ _ y114 0 0 t117 _ ?side1 ?side2 A1.out).mono ?_); (case side1 => repeat (first | exact (Kd.R_reads' HO116.out).2.2 | (with_reducible refine Kd.C_alloc ?_ _) | (with_reducible refine Kd.C_drewN ?_ _) | (with_reducible refine Kd.C_drew ?_))); (case side2 => exact (Kd.R_reads' HO116.out).2.1); rintro e w7 ⟨rfl, hb⟩; refine ⟨_, rfl, ?_⟩; have n0_ := rB HO116 hb; have n1_ := Aside0.mk (below_step bw hb); clear HO116 HB; have HO116 := n0_; have HB := n1_; clear n0_ n1_; (try clear hb); (try clear hb2); (try clear hk); (try clear hi); have TK2_ := Aside0.mk trivial) | (clear TK2_; go_at_call 77; (refine (impl_NetText.calls k 0 _ _ ([] : List (S40)) t118 _ ?side1 ?side2 A3.out).mono ?_); (case side1 => exact Kd.C_nil _ _); (case side2 => exact Nat.le_refl _); rintro e w8 ⟨rfl, hb⟩; have n0_ := rB HO116 hb; have n1_ := Aside0.mk (below_step bw hb); clear HO116 HB; have HO116 := n0_; have HB := n1_; clear n0_ n1_; (try clear hb); (try clear hb2); (try clear hk); (try clear hi); have TK3_ := Aside0.mk trivial))
  go_ret
  exact ⟨by first | rfl | (simp [errW_none, errW_some] <;> rfl) | (simp [*, errW_none, errW_some] <;> rfl), bw⟩
 ·rw [if_neg c2] at H
  have c2b0 : (t117 == 1) = false := beq_eq_false_iff_ne.mpr c2
  have c2b1 : (t117 != 1) = true := bne_iff_ne.mpr c2
  obtain rfl := Option.some.inj H
  go_enter Tryd.func21, Tryd.ntmps21
  go_wp2_with (first | ((with_reducible refine gate_dst (N := 2) rfl ?_); refine Kd.R_lit k40 _ 40 ?hg (N := 2) ?hd (xs := ([(⟨0, 1, 1⟩ : S40)] : List (S40))) (inner := [.int .i64 0, .int .i64 1, .int .i64 1]) (ok := fun _ => True) (okp := fun _ => True) ?hr ?hp (fun _ hk => by first | exact hk | grind) trivial (Below.refl _ _) (Nat.le_refl _) (by simp) ?_; (case hd => rfl); (case hg => rfl); (case hr => first | (go_simp; done) | (go_simp; rfl)); (case hp => exact (Reps.c3 (show Kd.M k40 _ _ _ (⟨0, 1, 1⟩ : S40) [.int .i64 0, .int .i64 1, .int .i64 1] from (k40_mkM _ _ _ (⟨0, 1, 1⟩ : S40) )) (Reps.none _ _))); intro v115 w9 ho10 hb hg_ hnew_; clear hg_ hnew_; (first | rw [← Ny114.out] at ho10 | (simp only [Int.reduceToNat] at ho10; rw [← Ny114.out] at ho10)); have n0_ := Aside0.mk (Kd.R_lower ho10 (below_size bw)); have n1_ := Aside0.mk (below_step bw hb); clear HB; have HO116 := n0_; have HB := n1_; clear n0_ n1_; clear hb ho10; obtain ⟨Ao11, co11, eo11⟩ := Kd.R_slice HO116.out; subst eo11) | ((with_reducible refine gate_callee (f := 41) rfl ?_); refine goesL_ (some 4) rfl rfl Tryd.func41 (by kernel_rfl) rfl #[.agg #[.int .i64 2, .slice Ao11 y114.length co11], .int .i64 0, .int .i64 0] rfl (by (try simp only [List.map_toArray, List.map_cons, List.map_nil]); first | done | rfl | (simp only [List.length_drop, List.length_take]; rfl)) ?_; (with_reducible refine (impl_OtherEnd.calls k 2 _ _ y114 0 0 t117 _ ?side1 ?side2 A1.out).mono ?_); (case side1 => repeat (first | exact (Kd.R_reads' HO116.out).2.2 | (with_reducible refine Kd.C_alloc ?_ _) | (with_reducible refine Kd.C_drewN ?_ _) | (with_reducible refine Kd.C_drew ?_))); (case side2 => exact (Kd.R_reads' HO116.out).2.1); rintro e w12 ⟨rfl, hb⟩; refine ⟨_, rfl, ?_⟩; have n0_ := rB HO116 hb; have n1_ := Aside0.mk (below_step bw hb); clear HO116 HB; have HO116 := n0_; have HB := n1_; clear n0_ n1_; (try clear hb); (try clear hb2); (try clear hk); (try clear hi)))
  go_ret
  exact ⟨by first | rfl | (simp [errW_none, errW_some] <;> rfl) | (simp [*, errW_none, errW_some] <;> rfl), bw⟩

/-- A state of type 133 at block g of W; what its slices lead to came in by w0. -/
def IsS133 (w0 W : World) (g : Nat) (f0 : List Int) (f1 : Int) : Prop := ∃ A0 c0, W.heap[g]? = some (.cells #[.slice A0 f0.length c0, .int .i64 f1] 133 (0, 0)) ∧ w0.heap.size ≤ g ∧ Kd.C (Kd.int .u8) w0 A0 f0.length f0
theorem IsS133.grown {w0 W : World} {g : Nat} {f0 : List Int} {f1 : Int} {W1 : World} {row : Option Nat} (h : IsS133 w0 W g f0 f1) (hw : W.grownBy W1 row) (hne : some g ≠ row) : IsS133 w0 W1 g f0 f1 := by
 obtain ⟨A0, c0, hb, hg, hr0⟩ := h
 exact ⟨A0, c0, blk_grown hb hw hne, hg, hr0⟩
theorem IsS133.own_neN {w0 W : World} {g : Nat} {f0 : List Int} {f1 : Int} {α : Type} {d : Kd α} {e : Nat} {base : Nat} {ok : Nat → Prop} {v : Value} {xs : List α} (h : IsS133 w0 W g f0 f1) (ho : Kd.N d e W base ok v xs) (ht : e ≠ 133) : some g ≠ v.ownBlock := by
 obtain ⟨A0, c0, hb, hg, hr0⟩ := h
 exact Kd.N_ne ho hb ht
theorem IsS133.fresh {w0 W : World} {g : Nat} {f0 : List Int} {f1 : Int} (h : IsS133 w0 W g f0 f1) : ∀ k, W.heap.size ≤ k → k ≠ g := by
 obtain ⟨A0, c0, hb, hg, hr0⟩ := h
 exact Kd.freshB hb
theorem IsS133.kept {w0 W : World} {g : Nat} {f0 : List Int} {f1 : Int} {W1 : World} {S : Nat → Prop} (h : IsS133 w0 W g f0 f1) (hk : Kept W W1 S) (hne : ¬ S g) : IsS133 w0 W1 g f0 f1 := by
 obtain ⟨A0, c0, hb, hg, hr0⟩ := h
 exact ⟨A0, c0, blk_kept hb hk hne, hg, hr0⟩
theorem IsS133.below {w0 W : World} {g : Nat} {f0 : List Int} {f1 : Int} {W1 : World} (h : IsS133 w0 W g f0 f1) (hw : Below W.heap.size W W1) : IsS133 w0 W1 g f0 f1 := h.grown (grown_of_below hw none) (by simp)
theorem IsS133.alloc {w0 W : World} {g : Nat} {f0 : List Int} {f1 : Int} (h : IsS133 w0 W g f0 f1) (o : Obj) : IsS133 w0 (W.alloc o) g f0 f1 := h.below (below_alloc (Below.refl _ _) o)
theorem IsS133.drewN {w0 W : World} {g : Nat} {f0 : List Int} {f1 : Int} (h : IsS133 w0 W g f0 f1) (m : Nat) : IsS133 w0 (W.drewN m) g f0 f1 := h
theorem IsS133.drew {w0 W : World} {g : Nat} {f0 : List Int} {f1 : Int} (h : IsS133 w0 W g f0 f1) : IsS133 w0 W.drew g f0 f1 := h
theorem IsS133.at_ {w0 W : World} {g : Nat} {f0 : List Int} {f1 : Int} {w' : World} {m : Nat} (hq : W.drewN m = w') (h : IsS133 w0 W g f0 f1) : IsS133 w0 w' g f0 f1 := by subst hq; exact IsS133.drewN h m
theorem IsS133.apart {w0 W : World} {g : Nat} {f0 : List Int} {f1 : Int} {α : Type} {d : Kd α} {e : Nat} {base : Nat} {ok : Nat → Prop} {v : Value} {xs : List α} (h : IsS133 w0 W g f0 f1) (ho : d.R e W base ok v xs) (ht : ∀ q, q ∈ e :: d.E → q ≠ 133) : d.R e W base (fun k => ok k ∧ k ≠ g) v xs := by
 obtain ⟨A0, c0, hb, hg, hr0⟩ := h
 exact Kd.R_types ho hb ht
theorem IsS133.own_ne {w0 W : World} {g : Nat} {f0 : List Int} {f1 : Int} {α : Type} {d : Kd α} {e : Nat} {base : Nat} {ok : Nat → Prop} {v : Value} {xs : List α} (h : IsS133 w0 W g f0 f1) (ho : d.R e W base ok v xs) (ht : e ≠ 133) : some g ≠ v.ownBlock := by
 obtain ⟨A0, c0, hb, hg, hr0⟩ := h
 exact Kd.R_ne ho hb ht
theorem IsS133.apartQ {w0 W : World} {g : Nat} {f0 : List Int} {f1 : Int} {α : Type} {d : Kd α} {e : Nat} {base : Nat} {ok : Nat → Prop} {v : Value} {xs : List α} (h : IsS133 w0 W g f0 f1) (ho : d.Q e W base ok v xs) (ht : ∀ q, q ∈ e :: d.E → q ≠ 133) : d.Q e W base (fun k => ok k ∧ k ≠ g) v xs := by
 obtain ⟨A0, c0, hb, hg, hr0⟩ := h
 exact Kd.Q_types ho hb ht
theorem IsS133.own_neQ {w0 W : World} {g : Nat} {f0 : List Int} {f1 : Int} {α : Type} {d : Kd α} {e : Nat} {base : Nat} {ok : Nat → Prop} {v : Value} {xs : List α} (h : IsS133 w0 W g f0 f1) (ho : d.Q e W base ok v xs) (ht : e ≠ 133) : some g ≠ v.ownBlock := by
 obtain ⟨A0, c0, hb, hg, hr0⟩ := h
 exact Kd.Q_ne ho hb ht
theorem IsS133.apartS {w0 W : World} {g : Nat} {f0 : List Int} {f1 : Int} {α : Type} {d : Kd α} {e : Nat} {base : Nat} {ok : Nat → Prop} {v : Value} {xs : List α} (h : IsS133 w0 W g f0 f1) (ho : d.S e W base ok v xs) (ht : ∀ q, q ∈ e :: d.E → q ≠ 133) : d.S e W base (fun k => ok k ∧ k ≠ g) v xs := by
 obtain ⟨A0, c0, hb, hg, hr0⟩ := h
 exact Kd.S_types ho hb ht
theorem IsS133.own_neS {w0 W : World} {g : Nat} {f0 : List Int} {f1 : Int} {α : Type} {d : Kd α} {e : Nat} {base : Nat} {ok : Nat → Prop} {v : Value} {xs : List α} (h : IsS133 w0 W g f0 f1) (ho : d.S e W base ok v xs) (ht : e ≠ 133) : some g ≠ v.ownBlock := by
 obtain ⟨A0, c0, hb, hg, hr0⟩ := h
 exact Kd.S_ne ho hb ht
theorem IsS133.lt {w0 W : World} {g : Nat} {f0 : List Int} {f1 : Int} (h : IsS133 w0 W g f0 f1) : g < W.heap.size := by
 obtain ⟨A0, c0, hb, hg, hr0⟩ := h
 exact blk_lt hb
theorem IsS133.ge {w0 W : World} {g : Nat} {f0 : List Int} {f1 : Int} (h : IsS133 w0 W g f0 f1) : w0.heap.size ≤ g := by
 obtain ⟨A0, c0, hb, hg, hr0⟩ := h
 exact hg
theorem IsS133.ne_blk {w0 W : World} {g : Nat} {f0 : List Int} {f1 : Int} {a : Nat} {cs : Array Value} {t : TypeId} {fr : Nat × Nat} (h : IsS133 w0 W g f0 f1) (hb2 : W.heap[a]? = some (.cells cs t fr)) (ht : t ≠ 133) : g ≠ a := by
 obtain ⟨A0, c0, hb, hg, hr0⟩ := h
 rintro rfl
 rw [hb] at hb2
 injection hb2 with hb2
 injection hb2 with _ ht2
 exact ht ht2.symm
theorem IsS133.far {w0 W : World} {g : Nat} {f0 : List Int} {f1 : Int} {p : Addr} (h : IsS133 w0 W g f0 f1) (hne : g ≠ p.block) (u : Value) : IsS133 w0 (W.setCell p u) g f0 f1 := by
 obtain ⟨A0, c0, hb, hg, hr0⟩ := h
 exact ⟨A0, c0, blk_far hb hne u, hg, hr0⟩
theorem cellS133_0 {W : World} {g : Nat} {A0 : Option Addr} {c0 : Nat} {f0 : List Int} {f1 : Int} (h : W.heap[g]? = some (.cells #[.slice A0 f0.length c0, .int .i64 f1] 133 (0, 0))) : W.cell? ⟨g, 0, none⟩ = some (.slice A0 f0.length c0) := (blk_cell h 0).trans rfl
theorem cellS133_1 {W : World} {g : Nat} {A0 : Option Addr} {c0 : Nat} {f0 : List Int} {f1 : Int} (h : W.heap[g]? = some (.cells #[.slice A0 f0.length c0, .int .i64 f1] 133 (0, 0))) : W.cell? ⟨g, 1, none⟩ = some (.int .i64 f1) := (blk_cell h 1).trans rfl
theorem IsS133.set_1 {w0 W : World} {g : Nat} {f0 : List Int} {f1 : Int} (h : IsS133 w0 W g f0 f1) (x : Int) : IsS133 w0 (W.setCell ⟨g, 1, none⟩ (.int .i64 x)) g f0 x := by
 obtain ⟨A0, c0, hb, hg, hr0⟩ := h
 exact ⟨A0, c0, by simpa using blk_set hb 1 (.int .i64 x), hg, hr0⟩
theorem IsS133.new (w0 W : World) (A0 : Option Addr) (c0 : Nat) (f0 : List Int) (f1 : Int) (hB : Below w0.heap.size w0 W) (hr0 : Kd.C (Kd.int .u8) w0 A0 f0.length f0) : IsS133 w0 (W.alloc (.cells #[.slice A0 f0.length c0, .int .i64 f1] 133)) W.heap.size f0 f1 := ⟨A0, c0, by simpa using heap_alloc_new W _, hB.size, hr0⟩

/-! ### spec_l20Open: function 68 -/
def spec_l20Open.f (l0 : List Int) : Option (List Int × Int) := if (l0.length : Int) > 2000 then (if 2000 ≤ (l0.length : Int) then (some (l0.take 2000, 0)) else (none)) else (some (l0, 0))
set_option maxHeartbeats 8000000 in
set_option maxRecDepth 100000 in
theorem spec_l20Open.calls (A0 : Option Addr) (c0 : Nat) (l0 : List Int) (r1 : List Int) (r2 : Int) (w0 w : World) (hB : Below w0.heap.size w0 w) (hr0 : Kd.C (Kd.int .u8) w0 A0 l0.length l0) (hc0 : l0.length ≤ c0) (h : spec_l20Open.f l0 = some (r1, r2)) :
  Calls Tryd.prog 68 #[.slice A0 l0.length c0] w fun e w' => ∃ g_ : Nat, e = .returned (.pointer (some ⟨g_, 0, none⟩)) ∧ IsS133 w0 w' g_ r1 r2 ∧ Below w0.heap.size w0 w' ∧ Below w.heap.size w w' := by
 have hu133 := Tryd.underlying133
 have HR0 := Aside0.mk hr0
 have HC0 := Aside0.mk hc0
 clear hr0 hc0
 have HBW := Aside0.mk (Below.refl w.heap.size w)
 have HW0 := Aside0.mk hB.size
 have HB := Aside0.mk hB
 clear hB
 have H : (if (l0.length : Int) > 2000 then (if 2000 ≤ (l0.length : Int) then (some (l0.take 2000, 0)) else (none)) else (some (l0, 0))) = some (r1, r2) := h
 clear h
 by_cases c2 : (l0.length : Int) > 2000
 ·rw [if_pos c2] at H
  have c2b0 : decide (2000 < (l0.length : Int)) = true := decide_eq_true c2
  have c2b1 : decide (2000 < l0.length) = true := decide_eq_true (by omega)
  clear c2
  by_cases c3 : 2000 ≤ (l0.length : Int)
  ·rw [if_pos c3] at H
   have c3b0 := eq_true c3
   have c3b1 : decide (2000 ≤ (l0.length : Int)) = true := decide_eq_true c3
   clear c3
   simp only [Option.some.injEq, Prod.mk.injEq] at H
   obtain ⟨rfl, rfl⟩ := H
   obtain ⟨i04, hi04, _, hsz4, _⟩ := info_parts info5
   obtain ⟨hcut4, hA4, hC4⟩ := print_take_of (P := Tryd.prog) (Value.int .u8) 0 22 5 .i64 Tryd.underlying22 hi04 hsz4 A0 c0 l0 2000 (by omega) (of_decide_eq_true (by first | (with_reducible assumption) | assumption)) HC0.out
   have HR119 := Aside0.mk (Kd.C_of_reads (h1 := fun _ => rfl) (hA4 _ (Kd.reads_of_C HR0.out)))
   have HC119 := Aside0.mk hC4
   clear hA4 hC4 hi04 hsz4
   go_enter Tryd.func68, Tryd.ntmps68
   go_wp2_with (first | ((with_reducible refine gate_dst (N := 10) rfl ?_); refine box_event ?hg (N := 10) ?hd (cs := #[.slice A0 (l0.take 2000).length c0, .int .i64 0]) (t := 133) ?hr ?_; (case hd => rfl); (case hg => rfl); (case hr => first | (go_simp; done) | (go_simp; rfl)); intro gb120 hg w5 hbox hb; have n0_ := Aside0.mk (below_step HBW.out hb); have n1_ := Aside0.mk (below_step bw hb); have n2_ := Aside0.mk (hbox); have n3_ := Aside0.mk ((by rw [hg]; exact (below_size (by repeat (first | (with_reducible first | exact HBW.out | apply below_alloc | apply pw_below_drewN | apply below_drew1) | exact HBW.out))) : w.heap.size ≤ gb120)); have n4_ := Aside0.mk ((Nat.le_trans HW0.out (by rw [hg]; exact (below_size (by repeat (first | (with_reducible first | exact HBW.out | apply below_alloc | apply pw_below_drewN | apply below_drew1) | exact HBW.out))) : w.heap.size ≤ gb120) : w0.heap.size ≤ gb120)); clear HBW HB; have HBW := n0_; have HB := n1_; have BK120 := n2_; have GW120 := n3_; have GE120 := n4_; clear n0_ n1_ n2_ n3_ n4_; clear hb hbox hg))
   go_ret
   exact ⟨_, rfl, (show IsS133 w0 _ gb120 (l0.take 2000) 0 from ⟨_, _, bk BK120, GE120.out, HR119.out⟩), bw, by repeat (first | (with_reducible first | exact HBW.out | apply below_alloc | apply pw_below_drewN | apply below_drew1 | refine below_set ?_ GW120.out) | exact HBW.out)⟩
  ·rw [if_neg c3] at H
   exact absurd H (by simp)
 ·rw [if_neg c2] at H
  have c2b0 : decide (2000 < (l0.length : Int)) = false := decide_eq_false c2
  have c2b1 : decide (2000 < l0.length) = false := decide_eq_false (by omega)
  clear c2
  simp only [Option.some.injEq, Prod.mk.injEq] at H
  obtain ⟨rfl, rfl⟩ := H
  go_enter Tryd.func68, Tryd.ntmps68
  go_wp2_with (first | ((with_reducible refine gate_dst (N := 10) rfl ?_); refine box_event ?hg (N := 10) ?hd (cs := #[.slice A0 l0.length c0, .int .i64 0]) (t := 133) ?hr ?_; (case hd => rfl); (case hg => rfl); (case hr => first | (go_simp; done) | (go_simp; rfl)); intro gb121 hg w6 hbox hb; have n0_ := Aside0.mk (below_step HBW.out hb); have n1_ := Aside0.mk (below_step bw hb); have n2_ := Aside0.mk (hbox); have n3_ := Aside0.mk ((by rw [hg]; exact (below_size (by repeat (first | (with_reducible first | exact HBW.out | apply below_alloc | apply pw_below_drewN | apply below_drew1) | exact HBW.out))) : w.heap.size ≤ gb121)); have n4_ := Aside0.mk ((Nat.le_trans HW0.out (by rw [hg]; exact (below_size (by repeat (first | (with_reducible first | exact HBW.out | apply below_alloc | apply pw_below_drewN | apply below_drew1) | exact HBW.out))) : w.heap.size ≤ gb121) : w0.heap.size ≤ gb121)); clear HBW HB; have HBW := n0_; have HB := n1_; have BK121 := n2_; have GW121 := n3_; have GE121 := n4_; clear n0_ n1_ n2_ n3_ n4_; clear hb hbox hg))
  go_ret
  exact ⟨_, rfl, (show IsS133 w0 _ gb121 l0 0 from ⟨_, _, bk BK121, GE121.out, HR0.out⟩), bw, by repeat (first | (with_reducible first | exact HBW.out | apply below_alloc | apply pw_below_drewN | apply below_drew1 | refine below_set ?_ GW121.out) | exact HBW.out)⟩

end Go.Proofs.YtoajkfhjgnonjaaDoor.G
