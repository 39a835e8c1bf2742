-- Printed by wip/gen.py of this session's repo, over the kit's print.py. Not trusted: Lean checks it.
import Derived.Test.YtoajkfhjgnonjaaDoorGx0
import Derived.Test.YtoajkfhjgnonjaaDoorSq
import Derived.Test.YtoajkfhjgnonjaaDoorGx1
import Derived.Test.YtoajkfhjgnonjaaDoorGx2
import Derived.Test.YtoajkfhjgnonjaaDoorGx7
namespace Go.Proofs.YtoajkfhjgnonjaaDoor.G
open Go.RowKit Go.Proofs.YtoajkfhjgnonjaaDoorW.PrintWords Go.Proofs.YtoajkfhjgnonjaaDoorW.PrintLast Go.Proofs.YtoajkfhjgnonjaaDoorW.PrintMore Go.Proofs.YtoajkfhjgnonjaaDoor.Sq
attribute [local go_sem] max2_int min2_int max_two min_two max_three min_three max_four min_four   -- for this text's walks alone
set_option linter.unusedVariables false
set_option linter.unusedSimpArgs false

/-! ### spec_DrawBayRun: function 64 -/
mutual
def spec_DrawBayRun.l0 : Nat → List Int → Int → List Int → Int → Bool → Bool → Bool → Bool → Bool → Bool → Bool → Bool → Option (Bool × Bool × Bool × Bool × List Int)
 | 0, _, _, _, _, _, _, _, _, _, _, _, _ => none
 | k + 1, x6, x8, x376000, x376001, x382000, x382001, x382002, x382003, x387000, x387001, x387002, x387003 => if x8 < (x6.length : Int) then ((spec_l20Rd_pick.f k x376000 x376001 4).bind fun bt387 => (spec_DrawBayRun.j1 k x6 x8 (decide (bt387.1 > 0)) x376000 bt387.2 x382000 x382001 x382002 x382003 x387000 x387001 x387002 x387003)) else (spec_DrawBayRun.j1 k x6 x8 false x376000 x376001 x382000 x382001 x382002 x382003 x387000 x387001 x387002 x387003)
def spec_DrawBayRun.j1 : Nat → List Int → Int → Bool → List Int → Int → Bool → Bool → Bool → Bool → Bool → Bool → Bool → Bool → Option (Bool × Bool × Bool × Bool × List Int)
 | 0, _, _, _, _, _, _, _, _, _, _, _, _, _ => none
 | k + 1, x6, x8, x26, x376000, x376001, x382000, x382001, x382002, x382003, x387000, x387001, x387002, x387003 => if x26 = true then (spec_DrawBayRun.l1 k x6 x8 x376000 x376001 x382000 x382001 x382002 x382003 x387000 x387001 x387002 x387003) else (some (x382000, x382001, x382002, x382003, x6))
def spec_DrawBayRun.l1 : Nat → List Int → Int → List Int → Int → Bool → Bool → Bool → Bool → Bool → Bool → Bool → Bool → Option (Bool × Bool × Bool × Bool × List Int)
 | 0, _, _, _, _, _, _, _, _, _, _, _, _ => none
 | k + 1, x6, x8, x376000, x376001, x382000, x382001, x382002, x382003, x387000, x387001, x387002, x387003 => if 0 ≤ x8 then (if x8 < (x6.length : Int) then ((spec_BayMay.f x387000 x387001 x387002 x387003 (rd x6 x8)).bind fun t390 => (if t390 = true then ((spec_BayDo.f x387000 x387001 x387002 x387003 (rd x6 x8)).bind fun bt392 => (spec_DrawBayRun.l0 k x6 (wrap64 (x8 + 1)) x376000 x376001 x382000 x382001 x382002 x382003 bt392.1 bt392.2.1 bt392.2.2.1 bt392.2.2.2.1)) else (spec_DrawBayRun.l1 k (x6.set (x8 : Int).toNat (Int.tmod (wrap64 ((rd x6 x8) + 1)) 8)) x8 x376000 x376001 x382000 x382001 x382002 x382003 x387000 x387001 x387002 x387003))) else (none)) else (none)
end
def spec_DrawBayRun.f (k : Nat) (l0 : List Int) : Option (Bool × Bool × Bool × Bool × List Int) := (spec_l20Open.f l0).bind fun bt373 => ((spec_l20Bay.f k bt373.1 bt373.2).bind fun bt376 => ((spec_l20Deeds.f k bt373.1 bt376.2.2.2.2).bind fun bt382 => (spec_DrawBayRun.l0 k bt382.1 0 bt373.1 bt382.2 bt376.1 bt376.2.1 bt376.2.2.1 bt376.2.2.2.1 bt376.1 bt376.2.1 bt376.2.2.1 bt376.2.2.2.1)))
theorem spec_DrawBayRun.mono_l : ∀ k, (∀ y0 y1 y2 y3 y4 y5 y6 y7 y8 y9 y10 y11, LeO (spec_DrawBayRun.l0 k y0 y1 y2 y3 y4 y5 y6 y7 y8 y9 y10 y11) (spec_DrawBayRun.l0 (k + 1) y0 y1 y2 y3 y4 y5 y6 y7 y8 y9 y10 y11)) ∧ (∀ y0 y1 y2 y3 y4 y5 y6 y7 y8 y9 y10 y11 y12, LeO (spec_DrawBayRun.j1 k y0 y1 y2 y3 y4 y5 y6 y7 y8 y9 y10 y11 y12) (spec_DrawBayRun.j1 (k + 1) y0 y1 y2 y3 y4 y5 y6 y7 y8 y9 y10 y11 y12)) ∧ (∀ y0 y1 y2 y3 y4 y5 y6 y7 y8 y9 y10 y11, LeO (spec_DrawBayRun.l1 k y0 y1 y2 y3 y4 y5 y6 y7 y8 y9 y10 y11) (spec_DrawBayRun.l1 (k + 1) y0 y1 y2 y3 y4 y5 y6 y7 y8 y9 y10 y11))
 | 0 => ⟨fun _ _ _ _ _ _ _ _ _ _ _ _ r h => by simp [spec_DrawBayRun.l0] at h, fun _ _ _ _ _ _ _ _ _ _ _ _ _ r h => by simp [spec_DrawBayRun.j1] at h, fun _ _ _ _ _ _ _ _ _ _ _ _ r h => by simp [spec_DrawBayRun.l1] at h⟩
 | k + 1 => by
  obtain ⟨ih0, ih1, ih2⟩ := spec_DrawBayRun.mono_l k
  refine ⟨?_, ?_, ?_⟩
  ·intro y0 y1 y2 y3 y4 y5 y6 y7 y8 y9 y10 y11
   unfold spec_DrawBayRun.l0
   repeat' first
   | (with_reducible exact ih0 _ _ _ _ _ _ _ _ _ _ _ _)
   | (with_reducible exact ih1 _ _ _ _ _ _ _ _ _ _ _ _ _)
   | (with_reducible exact ih2 _ _ _ _ _ _ _ _ _ _ _ _)
   | (with_reducible exact spec_l20Bay.mono _ _ _)
   | (with_reducible exact spec_l20Deeds.mono _ _ _)
   | (with_reducible exact spec_l20Rd_pick.mono _ _ _ _)
   | (with_reducible exact LeO.refl _)
   | (with_reducible exact LeO.none _)
   | (with_reducible refine LeO.ite ?_ ?_)
   | (with_reducible refine LeO.bind ?_ (fun _ => ?_))
   | exact ih0 _ _ _ _ _ _ _ _ _ _ _ _
   | exact ih1 _ _ _ _ _ _ _ _ _ _ _ _ _
   | exact ih2 _ _ _ _ _ _ _ _ _ _ _ _
   | exact spec_l20Bay.mono _ _ _
   | exact spec_l20Deeds.mono _ _ _
   | exact spec_l20Rd_pick.mono _ _ _ _
   | exact LeO.none _
   | refine LeO.ite ?_ ?_
   | refine LeO.bind ?_ (fun _ => ?_)
  ·intro y0 y1 y2 y3 y4 y5 y6 y7 y8 y9 y10 y11 y12
   unfold spec_DrawBayRun.j1
   repeat' first
   | (with_reducible exact ih0 _ _ _ _ _ _ _ _ _ _ _ _)
   | (with_reducible exact ih1 _ _ _ _ _ _ _ _ _ _ _ _ _)
   | (with_reducible exact ih2 _ _ _ _ _ _ _ _ _ _ _ _)
   | (with_reducible exact spec_l20Bay.mono _ _ _)
   | (with_reducible exact spec_l20Deeds.mono _ _ _)
   | (with_reducible exact spec_l20Rd_pick.mono _ _ _ _)
   | (with_reducible exact LeO.refl _)
   | (with_reducible exact LeO.none _)
   | (with_reducible refine LeO.ite ?_ ?_)
   | (with_reducible refine LeO.bind ?_ (fun _ => ?_))
   | exact ih0 _ _ _ _ _ _ _ _ _ _ _ _
   | exact ih1 _ _ _ _ _ _ _ _ _ _ _ _ _
   | exact ih2 _ _ _ _ _ _ _ _ _ _ _ _
   | exact spec_l20Bay.mono _ _ _
   | exact spec_l20Deeds.mono _ _ _
   | exact spec_l20Rd_pick.mono _ _ _ _
   | exact LeO.none _
   | refine LeO.ite ?_ ?_
   | refine LeO.bind ?_ (fun _ => ?_)
  ·intro y0 y1 y2 y3 y4 y5 y6 y7 y8 y9 y10 y11
   unfold spec_DrawBayRun.l1
   repeat' first
   | (with_reducible exact ih0 _ _ _ _ _ _ _ _ _ _ _ _)
   | (with_reducible exact ih1 _ _ _ _ _ _ _ _ _ _ _ _ _)
   | (with_reducible exact ih2 _ _ _ _ _ _ _ _ _ _ _ _)
   | (with_reducible exact spec_l20Bay.mono _ _ _)
   | (with_reducible exact spec_l20Deeds.mono _ _ _)
   | (with_reducible exact spec_l20Rd_pick.mono _ _ _ _)
   | (with_reducible exact LeO.refl _)
   | (with_reducible exact LeO.none _)
   | (with_reducible refine LeO.ite ?_ ?_)
   | (with_reducible refine LeO.bind ?_ (fun _ => ?_))
   | exact ih0 _ _ _ _ _ _ _ _ _ _ _ _
   | exact ih1 _ _ _ _ _ _ _ _ _ _ _ _ _
   | exact ih2 _ _ _ _ _ _ _ _ _ _ _ _
   | exact spec_l20Bay.mono _ _ _
   | exact spec_l20Deeds.mono _ _ _
   | exact spec_l20Rd_pick.mono _ _ _ _
   | exact LeO.none _
   | refine LeO.ite ?_ ?_
   | refine LeO.bind ?_ (fun _ => ?_)
theorem spec_DrawBayRun.mono : ∀ a0 k, LeO (spec_DrawBayRun.f k a0) (spec_DrawBayRun.f (k + 1) a0) := by
 intro a0 k
 obtain ⟨ih0, ih1, ih2⟩ := spec_DrawBayRun.mono_l k
 unfold spec_DrawBayRun.f
 repeat' first
   | (with_reducible exact ih0 _ _ _ _ _ _ _ _ _ _ _ _)
   | (with_reducible exact ih1 _ _ _ _ _ _ _ _ _ _ _ _ _)
   | (with_reducible exact ih2 _ _ _ _ _ _ _ _ _ _ _ _)
   | (with_reducible exact spec_l20Bay.mono _ _ _)
   | (with_reducible exact spec_l20Deeds.mono _ _ _)
   | (with_reducible exact spec_l20Rd_pick.mono _ _ _ _)
   | (with_reducible exact LeO.refl _)
   | (with_reducible exact LeO.none _)
   | (with_reducible refine LeO.ite ?_ ?_)
   | (with_reducible refine LeO.bind ?_ (fun _ => ?_))
   | exact ih0 _ _ _ _ _ _ _ _ _ _ _ _
   | exact ih1 _ _ _ _ _ _ _ _ _ _ _ _ _
   | exact ih2 _ _ _ _ _ _ _ _ _ _ _ _
   | exact spec_l20Bay.mono _ _ _
   | exact spec_l20Deeds.mono _ _ _
   | exact spec_l20Rd_pick.mono _ _ _ _
   | exact LeO.none _
   | refine LeO.ite ?_ ?_
   | refine LeO.bind ?_ (fun _ => ?_)
def spec_DrawBayRun.T10 : Bool × List (List Nat × List Nat) := (true, [([], []), ([], []), ([], []), ([1, 2], [1, 2]), ([3], [3]), ([0, 4], [0, 4]), ([5], [5]), ([6], [6]), ([6], [6]), ([], []), ([9, 7, 5, 0, 1, 2, 3, 4, 5, 6, 7, 9], [7, 9]), ([8, 10, 0, 1, 2, 3, 4, 5, 6, 7, 8, 9, 10], [8])])
def spec_DrawBayRun.B10 : List Nat := [0, 0, 0, 6, 14, 31, 63, 127, 127, 0, 767, 2047]
theorem spec_DrawBayRun.tab10 : rtab .any (opsOf Tryd.f64 10) = spec_DrawBayRun.T10 := by kernel_rfl
theorem spec_DrawBayRun.bits10 : waitsOk spec_DrawBayRun.T10.2 spec_DrawBayRun.B10 = true := by kernel_rfl
set_option maxHeartbeats 8000000 in
set_option maxRecDepth 100000 in
theorem spec_DrawBayRun.calls (k : Nat) (A0 : Option Addr) (c0 : Nat) (l0 : List Int) (r1 : Bool) (r2 : Bool) (r3 : Bool) (r4 : Bool) (r5 : List Int) (w : World) (hr0 : Kd.C (Kd.int .u8) w A0 l0.length l0) (hc0 : l0.length ≤ c0) (h : spec_DrawBayRun.f k l0 = some (r1, r2, r3, r4, r5)) :
  Calls Tryd.prog 64 #[.slice A0 l0.length c0] w fun e w' => ∃ v4_ : Value, e = .returned (.tuple #[.agg #[.bool r1, .bool r2, .bool r3, .bool r4], v4_]) ∧ Kd.R (Kd.int .i64) 3 w' w.heap.size (fun _ => True) v4_ r5 ∧ Below w.heap.size w w' := by
 have hu59 := Tryd.underlying59
 have HR0 := Aside0.mk hr0
 have HC0 := Aside0.mk hc0
 clear hr0 hc0
 have HB := Aside0.mk (Below.refl w.heap.size w)
 have H : ((spec_l20Open.f l0).bind fun bt373 => ((spec_l20Bay.f k bt373.1 bt373.2).bind fun bt376 => ((spec_l20Deeds.f k bt373.1 bt376.2.2.2.2).bind fun bt382 => (spec_DrawBayRun.l0 k bt382.1 0 bt373.1 bt382.2 bt376.1 bt376.2.1 bt376.2.2.1 bt376.2.2.2.1 bt376.1 bt376.2.1 bt376.2.2.1 bt376.2.2.2.1)))) = some (r1, r2, r3, r4, r5) := h
 clear h
 replace H := Option.bind_eq_some_iff.mp H
 obtain ⟨⟨t373, t374⟩, A20, H⟩ := H
 replace H : ((spec_l20Bay.f k t373 t374).bind fun bt376 => ((spec_l20Deeds.f k t373 bt376.2.2.2.2).bind fun bt382 => (spec_DrawBayRun.l0 k bt382.1 0 t373 bt382.2 bt376.1 bt376.2.1 bt376.2.2.1 bt376.2.2.2.1 bt376.1 bt376.2.1 bt376.2.2.1 bt376.2.2.2.1))) = some (r1, r2, r3, r4, r5) := H
 have A2 := Aside0.mk A20
 clear A20
 replace H := Option.bind_eq_some_iff.mp H
 obtain ⟨⟨t376, t377, t378, t379, t380⟩, A30, H⟩ := H
 replace H : ((spec_l20Deeds.f k t373 t380).bind fun bt382 => (spec_DrawBayRun.l0 k bt382.1 0 t373 bt382.2 t376 t377 t378 t379 t376 t377 t378 t379)) = some (r1, r2, r3, r4, r5) := H
 have A3 := Aside0.mk A30
 clear A30
 replace H := Option.bind_eq_some_iff.mp H
 obtain ⟨⟨t382, t385⟩, A40, H⟩ := H
 replace H : (spec_DrawBayRun.l0 k t382 0 t373 t385 t376 t377 t378 t379 t376 t377 t378 t379) = some (r1, r2, r3, r4, r5) := H
 have A4 := Aside0.mk A40
 clear A40
 have H' := Aside0.mk H
 clear H
 go_enter Tryd.func64, Tryd.ntmps64
 have TK0_ := Aside0.mk trivial
 go_wp2_with (first | (clear TK0_; (with_reducible refine gate_dst (N := 2) rfl ?_); refine box_event ?hg (N := 2) ?hd (cs := #[.bool false, .bool false, .bool false, .bool false]) (t := 59) ?hr ?_; (case hd => rfl); (case hg => rfl); (case hr => first | (go_simp; done) | (go_simp; rfl)); intro gb372 hg w5 hbox hb; have n0_ := Aside0.mk (below_step bw hb); have n1_ := Aside0.mk (hbox); have n2_ := Aside0.mk ((by rw [hg]; exact (below_size bw) : w.heap.size ≤ gb372)); have n3_ := Aside0.mk ((by rw [hg]; exact (below_size bw) : w.heap.size ≤ gb372)); clear HB; have HB := n0_; have BK372 := n1_; have GW372 := n2_; have GE372 := n3_; clear n0_ n1_ n2_ n3_; clear hb hbox hg; have TK1_ := Aside0.mk trivial) | (clear TK1_; (with_reducible refine gate_callee (f := 68) rfl ?_); refine goesL_ (some 12) rfl rfl Tryd.func68 (by kernel_rfl) rfl #[.slice A0 l0.length c0] rfl (by (try simp only [List.map_toArray, List.map_cons, List.map_nil]); first | done | rfl | (simp only [List.length_drop, List.length_take]; rfl)) ?_; (with_reducible refine (spec_l20Open.calls _ _ l0 t373 t374 w _ ?side1 ?side2 ?side3 A2.out).mono ?_); (case side1 => exact bw); (case side2 => exact HR0.out); (case side3 => exact HC0.out); rintro e w6 ⟨g375, rfl, hi, hb, hb2⟩; refine ⟨_, rfl, ?_⟩; have n0_ := Aside0.mk (blk_below (g := gb372) (o := .cells #[.bool false, .bool false, .bool false, .bool false] 59 (0, 0)) (bk BK372) hb2); have n1_ := Aside0.mk (hb); have n2_ := Aside0.mk (hi); have n3_ := Aside0.mk (IsS133.ne_blk hi (blk_below (g := gb372) (o := .cells #[.bool false, .bool false, .bool false, .bool false] 59 (0, 0)) (bk BK372) hb2) (by decide)); have n4_ := Aside0.mk (Ne.symm (IsS133.ne_blk hi (blk_below (g := gb372) (o := .cells #[.bool false, .bool false, .bool false, .bool false] 59 (0, 0)) (bk BK372) hb2) (by decide))); clear BK372 HB; have BK372 := n0_; have HB := n1_; have HI375 := n2_; have NB375_372 := n3_; have NB372_375 := n4_; clear n0_ n1_ n2_ n3_ n4_; (try clear hb); (try clear hb2); (try clear hk); (try clear hi); have TK2_ := Aside0.mk trivial) | (clear TK2_; (with_reducible refine gate_callee (f := 100) rfl ?_); refine goesL_ (some 14) rfl rfl Tryd.func100 (by kernel_rfl) rfl #[.pointer (some ⟨g375, 0, none⟩)] rfl (by (try simp only [List.map_toArray, List.map_cons, List.map_nil]); first | done | rfl | (simp only [List.length_drop, List.length_take]; rfl)) ?_; (with_reducible refine (spec_l20Bay.calls k g375 t373 t374 t376 t377 t378 t379 t380 w _ ?side1 ?side2 A3.out).mono ?_); (case side1 => repeat (first | (with_reducible first | exact HI375.out | apply IsS133.alloc | apply IsS133.drewN | apply IsS133.drew | apply IsS133.set_1 | refine IsS133.far ?_ NB375_372.out _) | exact HI375.out)); (case side2 => repeat (first | (with_reducible first | exact HB.out | apply below_alloc | apply pw_below_drewN | apply below_drew1 | refine below_set ?_ (IsS133.ge HI375.out) | refine below_set ?_ GE372.out) | exact HB.out)); rintro e w7 ⟨rfl, hi, hb, hk⟩; refine ⟨_, rfl, ?_⟩; have n0_ := Aside0.mk (KeepBut.blk hk (g' := gb372) (o := .cells #[.bool false, .bool false, .bool false, .bool false] 59 (0, 0)) (bk BK372) NB372_375.out (by simp)); have n1_ := Aside0.mk (hb); have n2_ := Aside0.mk (hi); clear BK372 HB HI375; have BK372 := n0_; have HB := n1_; have HI375 := n2_; clear n0_ n1_ n2_; (try clear hb); (try clear hb2); (try clear hk); (try clear hi); have TK3_ := Aside0.mk trivial) | (clear TK3_; (with_reducible refine gate_dst (N := 5) rfl ?_); refine box_event ?hg (N := 5) ?hd (cs := #[.bool false, .bool false, .bool false, .bool false]) (t := 59) ?hr ?_; (case hd => rfl); (case hg => rfl); (case hr => first | (go_simp; done) | (go_simp; rfl)); intro gb381 hg w8 hbox hb; have n0_ := bkB BK372 hb; have n1_ := Aside0.mk (IsS133.below (by repeat (first | (with_reducible first | exact HI375.out | apply IsS133.alloc | apply IsS133.drewN | apply IsS133.drew | apply IsS133.set_1 | refine IsS133.far ?_ NB375_372.out _) | exact HI375.out)) hb); have n2_ := Aside0.mk (below_step (by repeat (first | (with_reducible first | exact HB.out | apply below_alloc | apply pw_below_drewN | apply below_drew1 | refine below_set ?_ (IsS133.ge HI375.out) | refine below_set ?_ GE372.out) | exact HB.out)) hb); have n3_ := Aside0.mk (hbox); have n4_ := Aside0.mk ((by rw [hg]; exact (below_size (by repeat (first | (with_reducible first | exact HB.out | apply below_alloc | apply pw_below_drewN | apply below_drew1 | refine below_set ?_ (IsS133.ge HI375.out) | refine below_set ?_ GE372.out) | exact HB.out))) : w.heap.size ≤ gb381)); have n5_ := Aside0.mk ((by rw [hg]; exact (below_size (by repeat (first | (with_reducible first | exact HB.out | apply below_alloc | apply pw_below_drewN | apply below_drew1 | refine below_set ?_ (IsS133.ge HI375.out) | refine below_set ?_ GE372.out) | exact HB.out))) : w.heap.size ≤ gb381)); have n6_ := Aside0.mk ((by rw [hg]; exact Nat.ne_of_lt (blk_lt (g := gb372) (o := .cells #[.bool false, .bool false, .bool false, .bool false] 59 (0, 0)) (bk BK372)) : gb372 ≠ gb381)); have n7_ := Aside0.mk ((by rw [hg]; exact Nat.ne_of_gt (blk_lt (g := gb372) (o := .cells #[.bool false, .bool false, .bool false, .bool false] 59 (0, 0)) (bk BK372)) : gb381 ≠ gb372)); have n8_ := Aside0.mk ((by rw [hg]; exact Nat.ne_of_lt (IsS133.lt (show IsS133 w _ g375 t373 t380 from by repeat (first | (with_reducible first | exact HI375.out | apply IsS133.alloc | apply IsS133.drewN | apply IsS133.drew | apply IsS133.set_1 | refine IsS133.far ?_ NB375_372.out _) | exact HI375.out))) : g375 ≠ gb381)); have n9_ := Aside0.mk ((by rw [hg]; exact Nat.ne_of_gt (IsS133.lt (show IsS133 w _ g375 t373 t380 from by repeat (first | (with_reducible first | exact HI375.out | apply IsS133.alloc | apply IsS133.drewN | apply IsS133.drew | apply IsS133.set_1 | refine IsS133.far ?_ NB375_372.out _) | exact HI375.out))) : gb381 ≠ g375)); clear BK372 HI375 HB; have BK372 := n0_; have HI375 := n1_; have HB := n2_; have BK381 := n3_; have GW381 := n4_; have GE381 := n5_; have NB372_381 := n6_; have NB381_372 := n7_; have NB375_381 := n8_; have NB381_375 := n9_; clear n0_ n1_ n2_ n3_ n4_ n5_ n6_ n7_ n8_ n9_; clear hb hbox hg; have hnb9 := NB381_372.out; have hnc9 := NB372_381.out; have hnb10 := NB381_375.out; have hnc10 := NB375_381.out; have hcz11_0 : w8.cell? ⟨gb381, 0, none⟩ = some (.bool false) := (blk_cell BK381.out 0).trans rfl; have hcz11_1 : w8.cell? ⟨gb381, 1, none⟩ = some (.bool false) := (blk_cell BK381.out 1).trans rfl; have hcz11_2 : w8.cell? ⟨gb381, 2, none⟩ = some (.bool false) := (blk_cell BK381.out 2).trans rfl; have hcz11_3 : w8.cell? ⟨gb381, 3, none⟩ = some (.bool false) := (blk_cell BK381.out 3).trans rfl; have hfz11_0 := blk_frozen BK381.out 0; have hfz11_1 := blk_frozen BK381.out 1; have hfz11_2 := blk_frozen BK381.out 2; have hfz11_3 := blk_frozen BK381.out 3; have TK4_ := Aside0.mk trivial) | (clear TK4_; (with_reducible refine gate_callee (f := 109) rfl ?_); refine goesL_ (some 16) rfl rfl Tryd.func109 (by kernel_rfl) rfl #[.pointer (some ⟨g375, 0, none⟩)] rfl (by (try simp only [List.map_toArray, List.map_cons, List.map_nil]); first | done | rfl | (simp only [List.length_drop, List.length_take]; rfl)) ?_; (with_reducible refine (spec_l20Deeds.calls k g375 t373 t380 t382 t385 w _ ?side1 ?side2 A4.out).mono ?_); (case side1 => repeat (first | (with_reducible first | exact HI375.out | apply IsS133.alloc | apply IsS133.drewN | apply IsS133.drew | apply IsS133.set_1 | refine IsS133.far ?_ NB375_372.out _ | refine IsS133.far ?_ NB375_381.out _) | exact HI375.out)); (case side2 => repeat (first | (with_reducible first | exact HB.out | apply below_alloc | apply pw_below_drewN | apply below_drew1 | refine below_set ?_ (IsS133.ge HI375.out) | refine below_set ?_ GE372.out | refine below_set ?_ GE381.out) | exact HB.out)); rintro e w12 ⟨v383, rfl, ho0, hi, hb, hk⟩; refine ⟨_, rfl, ?_⟩; have n0_ := Aside0.mk (KeepBut.blk hk (g' := gb372) (o := .cells #[.bool false, .bool false, .bool false, .bool false] 59 (0, 0)) (by (with_reducible repeat (first | refine blk_drewN ?_ _ | refine blk_drew ?_ | refine blk_alloc ?_ _)); refine blk_far ?_ NB372_381.out _; (with_reducible repeat (first | refine blk_drewN ?_ _ | refine blk_drew ?_ | refine blk_alloc ?_ _)); refine blk_far ?_ NB372_381.out _; (with_reducible repeat (first | refine blk_drewN ?_ _ | refine blk_drew ?_ | refine blk_alloc ?_ _)); refine blk_far ?_ NB372_381.out _; (with_reducible repeat (first | refine blk_drewN ?_ _ | refine blk_drew ?_ | refine blk_alloc ?_ _)); refine blk_far ?_ NB372_381.out _; (with_reducible repeat (first | refine blk_drewN ?_ _ | refine blk_drew ?_ | refine blk_alloc ?_ _)); exact BK372.out) NB372_375.out (by simp)); have n1_ := Aside0.mk (KeepBut.blk hk (g' := gb381) (o := .cells #[.bool t376, .bool t377, .bool t378, .bool t379] 59 (0, 0)) (by (with_reducible repeat (first | refine blk_drewN ?_ _ | refine blk_drew ?_ | refine blk_alloc ?_ _)); refine blk_put (cs := #[.bool t376, .bool t377, .bool t378, .bool false]) ?_ 3 _ rfl; (with_reducible repeat (first | refine blk_drewN ?_ _ | refine blk_drew ?_ | refine blk_alloc ?_ _)); refine blk_put (cs := #[.bool t376, .bool t377, .bool false, .bool false]) ?_ 2 _ rfl; (with_reducible repeat (first | refine blk_drewN ?_ _ | refine blk_drew ?_ | refine blk_alloc ?_ _)); refine blk_put (cs := #[.bool t376, .bool false, .bool false, .bool false]) ?_ 1 _ rfl; (with_reducible repeat (first | refine blk_drewN ?_ _ | refine blk_drew ?_ | refine blk_alloc ?_ _)); refine blk_put (cs := #[.bool false, .bool false, .bool false, .bool false]) ?_ 0 _ rfl; (with_reducible repeat (first | refine blk_drewN ?_ _ | refine blk_drew ?_ | refine blk_alloc ?_ _)); exact BK381.out) NB381_375.out (by simp)); have n2_ := Aside0.mk (Kd.R_lower ho0 (below_size (by repeat (first | (with_reducible first | exact HB.out | apply below_alloc | apply pw_below_drewN | apply below_drew1 | refine below_set ?_ (IsS133.ge HI375.out) | refine below_set ?_ GE372.out | refine below_set ?_ GE381.out) | exact HB.out)))); have n3_ := Aside0.mk (hb); have n4_ := Aside0.mk (hi); clear BK372 BK381 HB HI375; have BK372 := n0_; have BK381 := n1_; have HO384 := n2_; have HB := n3_; have HI375 := n4_; clear n0_ n1_ n2_ n3_ n4_; (try clear hb); (try clear hb2); (try clear hk); (try clear hi); (try clear ho0); have hcz13_0 : w12.cell? ⟨gb381, 0, none⟩ = some (.bool t376) := (blk_cell BK381.out 0).trans rfl; have hcz13_1 : w12.cell? ⟨gb381, 1, none⟩ = some (.bool t377) := (blk_cell BK381.out 1).trans rfl; have hcz13_2 : w12.cell? ⟨gb381, 2, none⟩ = some (.bool t378) := (blk_cell BK381.out 2).trans rfl; have hcz13_3 : w12.cell? ⟨gb381, 3, none⟩ = some (.bool t379) := (blk_cell BK381.out 3).trans rfl; have hfz13_0 := blk_frozen BK381.out 0; have hfz13_1 := blk_frozen BK381.out 1; have hfz13_2 := blk_frozen BK381.out 2; have hfz13_3 := blk_frozen BK381.out 3; have TK5_ := Aside0.mk trivial) | (clear TK5_; (with_reducible refine gate_dst (N := 7) rfl ?_); refine box_event ?hg (N := 7) ?hd (cs := #[.bool false, .bool false, .bool false, .bool false]) (t := 59) ?hr ?_; (case hd => rfl); (case hg => rfl); (case hr => first | (go_simp; done) | (go_simp; rfl)); intro gb386 hg w14 hbox hb; have n0_ := rB HO384 hb; have n1_ := bkB BK372 hb; have n2_ := Aside0.mk (IsS133.below (by repeat (first | (with_reducible first | exact HI375.out | apply IsS133.alloc | apply IsS133.drewN | apply IsS133.drew | apply IsS133.set_1 | refine IsS133.far ?_ NB375_372.out _ | refine IsS133.far ?_ NB375_381.out _) | exact HI375.out)) hb); have n3_ := bkB BK381 hb; have n4_ := Aside0.mk (below_step (by repeat (first | (with_reducible first | exact HB.out | apply below_alloc | apply pw_below_drewN | apply below_drew1 | refine below_set ?_ (IsS133.ge HI375.out) | refine below_set ?_ GE372.out | refine below_set ?_ GE381.out) | exact HB.out)) hb); have n5_ := Aside0.mk (hbox); have n6_ := Aside0.mk ((by rw [hg]; exact (below_size (by repeat (first | (with_reducible first | exact HB.out | apply below_alloc | apply pw_below_drewN | apply below_drew1 | refine below_set ?_ (IsS133.ge HI375.out) | refine below_set ?_ GE372.out | refine below_set ?_ GE381.out) | exact HB.out))) : w.heap.size ≤ gb386)); have n7_ := Aside0.mk ((by rw [hg]; exact (below_size (by repeat (first | (with_reducible first | exact HB.out | apply below_alloc | apply pw_below_drewN | apply below_drew1 | refine below_set ?_ (IsS133.ge HI375.out) | refine below_set ?_ GE372.out | refine below_set ?_ GE381.out) | exact HB.out))) : w.heap.size ≤ gb386)); have n8_ := Aside0.mk ((by rw [hg]; exact Nat.ne_of_lt (blk_lt (g := gb372) (o := .cells #[.bool false, .bool false, .bool false, .bool false] 59 (0, 0)) (bk BK372)) : gb372 ≠ gb386)); have n9_ := Aside0.mk ((by rw [hg]; exact Nat.ne_of_gt (blk_lt (g := gb372) (o := .cells #[.bool false, .bool false, .bool false, .bool false] 59 (0, 0)) (bk BK372)) : gb386 ≠ gb372)); have n10_ := Aside0.mk ((by rw [hg]; exact Nat.ne_of_lt (blk_lt (g := gb381) (o := .cells #[.bool t376, .bool t377, .bool t378, .bool t379] 59 (0, 0)) (bk BK381)) : gb381 ≠ gb386)); have n11_ := Aside0.mk ((by rw [hg]; exact Nat.ne_of_gt (blk_lt (g := gb381) (o := .cells #[.bool t376, .bool t377, .bool t378, .bool t379] 59 (0, 0)) (bk BK381)) : gb386 ≠ gb381)); have n12_ := Aside0.mk ((by rw [hg]; exact Nat.ne_of_lt (IsS133.lt (show IsS133 w _ g375 t373 t385 from by repeat (first | (with_reducible first | exact HI375.out | apply IsS133.alloc | apply IsS133.drewN | apply IsS133.drew | apply IsS133.set_1 | refine IsS133.far ?_ NB375_372.out _ | refine IsS133.far ?_ NB375_381.out _) | exact HI375.out))) : g375 ≠ gb386)); have n13_ := Aside0.mk ((by rw [hg]; exact Nat.ne_of_gt (IsS133.lt (show IsS133 w _ g375 t373 t385 from by repeat (first | (with_reducible first | exact HI375.out | apply IsS133.alloc | apply IsS133.drewN | apply IsS133.drew | apply IsS133.set_1 | refine IsS133.far ?_ NB375_372.out _ | refine IsS133.far ?_ NB375_381.out _) | exact HI375.out))) : gb386 ≠ g375)); clear HO384 BK372 HI375 BK381 HB; have HO384 := n0_; have BK372 := n1_; have HI375 := n2_; have BK381 := n3_; have HB := n4_; have BK386 := n5_; have GW386 := n6_; have GE386 := n7_; have NB372_386 := n8_; have NB386_372 := n9_; have NB381_386 := n10_; have NB386_381 := n11_; have NB375_386 := n12_; have NB386_375 := n13_; clear n0_ n1_ n2_ n3_ n4_ n5_ n6_ n7_ n8_ n9_ n10_ n11_ n12_ n13_; clear hb hbox hg; have hnb15 := NB386_372.out; have hnc15 := NB372_386.out; have hnb16 := NB386_381.out; have hnc16 := NB381_386.out; have hnb17 := NB386_375.out; have hnc17 := NB375_386.out; have hcz18_0 : w14.cell? ⟨gb386, 0, none⟩ = some (.bool false) := (blk_cell BK386.out 0).trans rfl; have hcz18_1 : w14.cell? ⟨gb386, 1, none⟩ = some (.bool false) := (blk_cell BK386.out 1).trans rfl; have hcz18_2 : w14.cell? ⟨gb386, 2, none⟩ = some (.bool false) := (blk_cell BK386.out 2).trans rfl; have hcz18_3 : w14.cell? ⟨gb386, 3, none⟩ = some (.bool false) := (blk_cell BK386.out 3).trans rfl; have hfz18_0 := blk_frozen BK386.out 0; have hfz18_1 := blk_frozen BK386.out 1; have hfz18_2 := blk_frozen BK386.out 2; have hfz18_3 := blk_frozen BK386.out 3; have TK6_ := Aside0.mk trivial))
 go_loopg [8] k (fun kq v8 w' => ∃ (x6_1 : List Int) (x8_1 : Int) (x376001_1 : Int) (x387000_1 : Bool) (x387001_1 : Bool) (x387002_1 : Bool) (x387003_1 : Bool), v8 = .int .i64 x8_1 ∧ Aside0 (spec_DrawBayRun.l0 kq x6_1 x8_1 t373 x376001_1 t376 t377 t378 t379 x387000_1 x387001_1 x387002_1 x387003_1 = some (r1, r2, r3, r4, r5)) ∧ Aside0 (kq ≤ k) ∧ Aside0 (Kd.R (Kd.int .i64) 3 w' w.heap.size (fun _ => True) v383 x6_1) ∧ Aside0 (w'.heap[gb372]? = some (.cells #[.bool false, .bool false, .bool false, .bool false] 59 (0, 0))) ∧ Aside0 (w'.heap[gb381]? = some (.cells #[.bool t376, .bool t377, .bool t378, .bool t379] 59 (0, 0))) ∧ Aside0 (w'.heap[gb386]? = some (.cells #[.bool x387000_1, .bool x387001_1, .bool x387002_1, .bool x387003_1] 59 (0, 0))) ∧ Aside0 (IsS133 w w' g375 t373 x376001_1) ∧ Aside0 (Below w.heap.size w w'))
 case atStart => exact ⟨(t382), (0), (t385), (t376), (t377), (t378), (t379), (by first | rfl | (simp; done) | (simp [*]; done)), H', ⟨Nat.le_refl _⟩, ⟨by (with_reducible repeat (first | apply Kd.R_alloc | apply Kd.R_drewN | apply Kd.R_drew)); exact Kd.R_mono (Kd.R_far (p := ⟨gb386, 3, none⟩) (Kd.R_far (p := ⟨gb386, 2, none⟩) (Kd.R_far (p := ⟨gb386, 1, none⟩) (Kd.R_far (p := ⟨gb386, 0, none⟩) (Kd.R_types HO384.out BK386.out (by decide)) (fun _ hk => by first | exact hk.2 | grind) (.bool t376)) (fun _ hk => by first | exact hk.2 | grind) (.bool t377)) (fun _ hk => by first | exact hk.2 | grind) (.bool t378)) (fun _ hk => by first | exact hk.2 | grind) (.bool t379)) (fun _ hk => trivial)⟩, ⟨by (with_reducible repeat (first | refine blk_drewN ?_ _ | refine blk_drew ?_ | refine blk_alloc ?_ _)); refine blk_far ?_ NB372_386.out _; (with_reducible repeat (first | refine blk_drewN ?_ _ | refine blk_drew ?_ | refine blk_alloc ?_ _)); refine blk_far ?_ NB372_386.out _; (with_reducible repeat (first | refine blk_drewN ?_ _ | refine blk_drew ?_ | refine blk_alloc ?_ _)); refine blk_far ?_ NB372_386.out _; (with_reducible repeat (first | refine blk_drewN ?_ _ | refine blk_drew ?_ | refine blk_alloc ?_ _)); refine blk_far ?_ NB372_386.out _; (with_reducible repeat (first | refine blk_drewN ?_ _ | refine blk_drew ?_ | refine blk_alloc ?_ _)); exact BK372.out⟩, ⟨by (with_reducible repeat (first | refine blk_drewN ?_ _ | refine blk_drew ?_ | refine blk_alloc ?_ _)); refine blk_far ?_ NB381_386.out _; (with_reducible repeat (first | refine blk_drewN ?_ _ | refine blk_drew ?_ | refine blk_alloc ?_ _)); refine blk_far ?_ NB381_386.out _; (with_reducible repeat (first | refine blk_drewN ?_ _ | refine blk_drew ?_ | refine blk_alloc ?_ _)); refine blk_far ?_ NB381_386.out _; (with_reducible repeat (first | refine blk_drewN ?_ _ | refine blk_drew ?_ | refine blk_alloc ?_ _)); refine blk_far ?_ NB381_386.out _; (with_reducible repeat (first | refine blk_drewN ?_ _ | refine blk_drew ?_ | refine blk_alloc ?_ _)); exact BK381.out⟩, ⟨by (with_reducible repeat (first | refine blk_drewN ?_ _ | refine blk_drew ?_ | refine blk_alloc ?_ _)); refine blk_put (cs := #[.bool t376, .bool t377, .bool t378, .bool false]) ?_ 3 _ rfl; (with_reducible repeat (first | refine blk_drewN ?_ _ | refine blk_drew ?_ | refine blk_alloc ?_ _)); refine blk_put (cs := #[.bool t376, .bool t377, .bool false, .bool false]) ?_ 2 _ rfl; (with_reducible repeat (first | refine blk_drewN ?_ _ | refine blk_drew ?_ | refine blk_alloc ?_ _)); refine blk_put (cs := #[.bool t376, .bool false, .bool false, .bool false]) ?_ 1 _ rfl; (with_reducible repeat (first | refine blk_drewN ?_ _ | refine blk_drew ?_ | refine blk_alloc ?_ _)); refine blk_put (cs := #[.bool false, .bool false, .bool false, .bool false]) ?_ 0 _ rfl; (with_reducible repeat (first | refine blk_drewN ?_ _ | refine blk_drew ?_ | refine blk_alloc ?_ _)); exact BK386.out⟩, ⟨by repeat (first | (with_reducible first | exact HI375.out | apply IsS133.alloc | apply IsS133.drewN | apply IsS133.drew | apply IsS133.set_1 | refine IsS133.far ?_ NB375_372.out _ | refine IsS133.far ?_ NB375_381.out _ | refine IsS133.far ?_ NB375_386.out _) | exact HI375.out)⟩, ⟨by repeat (first | (with_reducible first | exact HB.out | apply below_alloc | apply pw_below_drewN | apply below_drew1 | refine below_set ?_ (IsS133.ge HI375.out) | refine below_set ?_ GE372.out | refine below_set ?_ GE381.out | refine below_set ?_ GE386.out) | exact HB.out)⟩⟩
 case round =>
  clear H'
  try clear c1
  try clear p2
  try clear c6
  try clear c9
  try clear c10
  try clear c15
  try clear c16
  try clear c17
  try clear hcz11_0
  try clear hcz11_1
  try clear hcz11_2
  try clear hcz11_3
  try clear hcz13_0
  try clear hcz13_1
  try clear hcz13_2
  try clear hcz13_3
  try clear hcz18_0
  try clear hcz18_1
  try clear hcz18_2
  try clear hcz18_3
  try clear hfz11_0
  try clear hfz11_1
  try clear hfz11_2
  try clear hfz11_3
  try clear hfz13_0
  try clear hfz13_1
  try clear hfz13_2
  try clear hfz13_3
  try clear hfz18_0
  try clear hfz18_1
  try clear hfz18_2
  try clear hfz18_3
  obtain ⟨x6_1, x8_1, x376001_1, x387000_1, x387001_1, x387002_1, x387003_1, rfl, HA, HK1, HO_6, BK372, BK381, BK386, HI375, HB⟩ := hrel
  cases gk with
  | zero => exact absurd HA.out (by simp [spec_DrawBayRun.l0])
  | succ k1 =>
   have H := HA.out
   clear HA
   simp only [spec_DrawBayRun.l0] at H
   have HC19 := Aside0.mk H
   clear H
   go_upto_region 6 with (fail)
   go_cut [26] (fun v26 wc => ∃ (kq : Nat) (x26_18 : Bool) (x376001_18 : Int), v26 = .bool x26_18 ∧ Aside0 (spec_DrawBayRun.j1 kq x6_1 x8_1 x26_18 t373 x376001_18 t376 t377 t378 t379 x387000_1 x387001_1 x387002_1 x387003_1 = some (r1, r2, r3, r4, r5)) ∧ Aside0 (kq ≤ k1) ∧ Aside0 (Kd.R (Kd.int .i64) 3 wc w.heap.size (fun _ => True) v383 x6_1) ∧ Aside0 (wc.heap[gb372]? = some (.cells #[.bool false, .bool false, .bool false, .bool false] 59 (0, 0))) ∧ Aside0 (wc.heap[gb381]? = some (.cells #[.bool t376, .bool t377, .bool t378, .bool t379] 59 (0, 0))) ∧ Aside0 (wc.heap[gb386]? = some (.cells #[.bool x387000_1, .bool x387001_1, .bool x387002_1, .bool x387003_1] 59 (0, 0))) ∧ Aside0 (IsS133 w wc g375 t373 x376001_18) ∧ Aside0 (Below w.heap.size w wc))
   case first =>
    have H := HC19.out
    clear HC19
    by_cases c20 : x8_1 < (x6_1.length : Int)
    ·rw [if_pos c20] at H
     have c20b0 : decide (x8_1 < (x6_1.length : Int)) = true := decide_eq_true c20
     clear c20
     (first | rw [c20b0] | (simp only [i64_w, i32_w]; rw [c20b0]) | skip)
     replace H := Option.bind_eq_some_iff.mp H
     obtain ⟨⟨t387, t388⟩, A210, H⟩ := H
     replace H : (spec_DrawBayRun.j1 k1 x6_1 x8_1 (decide (t387 > 0)) t373 t388 t376 t377 t378 t379 x387000_1 x387001_1 x387002_1 x387003_1) = some (r1, r2, r3, r4, r5) := H
     have A21 := Aside0.mk A210
     clear A210
     have H' := Aside0.mk H
     clear H
     obtain ⟨Ao22, co22, eo22⟩ := Kd.R_slice HO_6.out
     subst eo22
     go_wp2_with (first | (go_at_call 80; (with_reducible refine (spec_l20Rd_pick.calls k1 g375 t373 x376001_1 4 t387 t388 w _ ?side1 ?side2 A21.out).mono ?_); (case side1 => repeat (first | (with_reducible first | exact HI375.out | apply IsS133.alloc | apply IsS133.drewN | apply IsS133.drew | apply IsS133.set_1 | refine IsS133.far ?_ NB375_372.out _ | refine IsS133.far ?_ NB375_381.out _ | refine IsS133.far ?_ NB375_386.out _) | exact HI375.out)); (case side2 => repeat (first | (with_reducible first | exact HB.out | apply below_alloc | apply pw_below_drewN | apply below_drew1 | refine below_set ?_ (IsS133.ge HI375.out) | refine below_set ?_ GE372.out | refine below_set ?_ GE381.out | refine below_set ?_ GE386.out) | exact HB.out)); rintro e w23 ⟨rfl, hi, hb, hk⟩; have n0_ := Aside0.mk (Kd.R_mono (Kd.R_keep (IsS133.apart (show IsS133 w _ g375 t373 x376001_1 from by repeat (first | (with_reducible first | exact HI375.out | apply IsS133.alloc | apply IsS133.drewN | apply IsS133.drew | apply IsS133.set_1 | refine IsS133.far ?_ NB375_372.out _ | refine IsS133.far ?_ NB375_381.out _ | refine IsS133.far ?_ NB375_386.out _) | exact HI375.out)) (rk HO_6) (by decide)) hk (fun _ h => h.2)) (fun _ h => h.1)); have n1_ := Aside0.mk (KeepBut.blk hk (g' := gb372) (o := .cells #[.bool false, .bool false, .bool false, .bool false] 59 (0, 0)) (bk BK372) NB372_375.out (by simp)); have n2_ := Aside0.mk (KeepBut.blk hk (g' := gb381) (o := .cells #[.bool t376, .bool t377, .bool t378, .bool t379] 59 (0, 0)) (bk BK381) NB381_375.out (by simp)); have n3_ := Aside0.mk (KeepBut.blk hk (g' := gb386) (o := .cells #[.bool x387000_1, .bool x387001_1, .bool x387002_1, .bool x387003_1] 59 (0, 0)) (bk BK386) NB386_375.out (by simp)); have n4_ := Aside0.mk (hb); have n5_ := Aside0.mk (hi); clear HO_6 BK372 BK381 BK386 HB HI375; have HO_6 := n0_; have BK372 := n1_; have BK381 := n2_; have BK386 := n3_; have HB := n4_; have HI375 := n5_; clear n0_ n1_ n2_ n3_ n4_ n5_; (try clear hb); (try clear hb2); (try clear hk); (try clear hi)))
     go_meet
     case rel => exact ⟨_, (decide (t387 > 0)), (t388), (by first | rfl | (simp; done) | (simp [*]; done)), H', ⟨by have := HK1.out; first | omega | exact Nat.le_refl _⟩, ⟨rk HO_6⟩, ⟨bk BK372⟩, ⟨bk BK381⟩, ⟨bk BK386⟩, ⟨by repeat (first | (with_reducible first | exact HI375.out | apply IsS133.alloc | apply IsS133.drewN | apply IsS133.drew | apply IsS133.set_1 | refine IsS133.far ?_ NB375_372.out _ | refine IsS133.far ?_ NB375_381.out _ | refine IsS133.far ?_ NB375_386.out _) | exact HI375.out)⟩, ⟨by repeat (first | (with_reducible first | exact HB.out | apply below_alloc | apply pw_below_drewN | apply below_drew1 | refine below_set ?_ (IsS133.ge HI375.out) | refine below_set ?_ GE372.out | refine below_set ?_ GE381.out | refine below_set ?_ GE386.out) | exact HB.out)⟩⟩
    ·rw [if_neg c20] at H
     have c20b0 : decide (x8_1 < (x6_1.length : Int)) = false := decide_eq_false c20
     clear c20
     (first | rw [c20b0] | (simp only [i64_w, i32_w]; rw [c20b0]) | skip)
     have H' := Aside0.mk H
     clear H
     obtain ⟨Ao24, co24, eo24⟩ := Kd.R_slice HO_6.out
     subst eo24
     go_wp2
     go_meet
     case rel => exact ⟨_, (false), (x376001_1), (by first | rfl | (simp; done) | (simp [*]; done)), H', ⟨by have := HK1.out; first | omega | exact Nat.le_refl _⟩, ⟨rk HO_6⟩, ⟨bk BK372⟩, ⟨bk BK381⟩, ⟨bk BK386⟩, ⟨by repeat (first | (with_reducible first | exact HI375.out | apply IsS133.alloc | apply IsS133.drewN | apply IsS133.drew | apply IsS133.set_1 | refine IsS133.far ?_ NB375_372.out _ | refine IsS133.far ?_ NB375_381.out _ | refine IsS133.far ?_ NB375_386.out _) | exact HI375.out)⟩, ⟨by repeat (first | (with_reducible first | exact HB.out | apply below_alloc | apply pw_below_drewN | apply below_drew1 | refine below_set ?_ (IsS133.ge HI375.out) | refine below_set ?_ GE372.out | refine below_set ?_ GE381.out | refine below_set ?_ GE386.out) | exact HB.out)⟩⟩
   case rest =>
    clear HC19
    try clear c1
    try clear c2
    try clear p2
    try clear c6
    try clear c9
    try clear c10
    try clear c15
    try clear c16
    try clear c17
    try clear c20
    try clear c20b0
    try clear hcz11_0
    try clear hcz11_1
    try clear hcz11_2
    try clear hcz11_3
    try clear hcz13_0
    try clear hcz13_1
    try clear hcz13_2
    try clear hcz13_3
    try clear hcz18_0
    try clear hcz18_1
    try clear hcz18_2
    try clear hcz18_3
    try clear hfz11_0
    try clear hfz11_1
    try clear hfz11_2
    try clear hfz11_3
    try clear hfz13_0
    try clear hfz13_1
    try clear hfz13_2
    try clear hfz13_3
    try clear hfz18_0
    try clear hfz18_1
    try clear hfz18_2
    try clear hfz18_3
    try clear p2
    obtain ⟨kq, x26_18, x376001_18, rfl, HA, HJ18, HO_6, BK372, BK381, BK386, HI375, HB⟩ := hcut
    cases kq with
    | zero => exact absurd HA.out (by simp [spec_DrawBayRun.j1])
    | succ kj18 =>
     have H := HA.out
     clear HA
     simp only [spec_DrawBayRun.j1] at H
     by_cases c25 : x26_18 = true
     ·subst c25
      have H1 : (spec_DrawBayRun.l1 kj18 x6_1 x8_1 t373 x376001_18 t376 t377 t378 t379 x387000_1 x387001_1 x387002_1 x387003_1) = some (r1, r2, r3, r4, r5) := by rw [if_pos rfl] at H; exact H
      clear H
      have H := H1
      clear H1
      have H' := Aside0.mk H
      clear H
      go_wp2
      go_loopg [] kj18 (fun kq w' => ∃ (x6_3 : List Int), Aside0 (spec_DrawBayRun.l1 kq x6_3 x8_1 t373 x376001_18 t376 t377 t378 t379 x387000_1 x387001_1 x387002_1 x387003_1 = some (r1, r2, r3, r4, r5)) ∧ Aside0 (kq ≤ kj18) ∧ Aside0 (Kd.R (Kd.int .i64) 3 w' w.heap.size (fun _ => True) v383 x6_3) ∧ Aside0 (w'.heap[gb372]? = some (.cells #[.bool false, .bool false, .bool false, .bool false] 59 (0, 0))) ∧ Aside0 (w'.heap[gb381]? = some (.cells #[.bool t376, .bool t377, .bool t378, .bool t379] 59 (0, 0))) ∧ Aside0 (w'.heap[gb386]? = some (.cells #[.bool x387000_1, .bool x387001_1, .bool x387002_1, .bool x387003_1] 59 (0, 0))) ∧ Aside0 (IsS133 w w' g375 t373 x376001_18) ∧ Aside0 (Below w.heap.size w w'))
      case atStart => exact ⟨(x6_1), H', ⟨Nat.le_refl _⟩, ⟨rk HO_6⟩, ⟨bk BK372⟩, ⟨bk BK381⟩, ⟨bk BK386⟩, ⟨by repeat (first | (with_reducible first | exact HI375.out | apply IsS133.alloc | apply IsS133.drewN | apply IsS133.drew | apply IsS133.set_1 | refine IsS133.far ?_ NB375_372.out _ | refine IsS133.far ?_ NB375_381.out _ | refine IsS133.far ?_ NB375_386.out _) | exact HI375.out)⟩, ⟨by repeat (first | (with_reducible first | exact HB.out | apply below_alloc | apply pw_below_drewN | apply below_drew1 | refine below_set ?_ (IsS133.ge HI375.out) | refine below_set ?_ GE372.out | refine below_set ?_ GE381.out | refine below_set ?_ GE386.out) | exact HB.out)⟩⟩
      case round =>
       clear H'
       try clear c1
       try clear c2
       try clear p2
       try clear c6
       try clear c9
       try clear c10
       try clear c15
       try clear c16
       try clear c17
       try clear c20
       try clear c20b0
       try clear c25
       try clear hcz11_0
       try clear hcz11_1
       try clear hcz11_2
       try clear hcz11_3
       try clear hcz13_0
       try clear hcz13_1
       try clear hcz13_2
       try clear hcz13_3
       try clear hcz18_0
       try clear hcz18_1
       try clear hcz18_2
       try clear hcz18_3
       try clear hfz11_0
       try clear hfz11_1
       try clear hfz11_2
       try clear hfz11_3
       try clear hfz13_0
       try clear hfz13_1
       try clear hfz13_2
       try clear hfz13_3
       try clear hfz18_0
       try clear hfz18_1
       try clear hfz18_2
       try clear hfz18_3
       try clear p2
       obtain ⟨x6_3, HA, HK3, HO_6, BK372, BK381, BK386, HI375, HB⟩ := hrel
       cases gk with
       | zero => exact absurd HA.out (by simp [spec_DrawBayRun.l1])
       | succ k3 =>
        have H := HA.out
        clear HA
        simp only [spec_DrawBayRun.l1] at H
        by_cases c26 : 0 ≤ x8_1
        ·rw [if_pos c26] at H
         have c26b0 : decide (0 ≤ x8_1) = true := decide_eq_true c26
         clear c26
         by_cases c27 : x8_1 < (x6_3.length : Int)
         ·rw [if_pos c27] at H
          have c27b0 : decide (x8_1 < (x6_3.length : Int)) = true := decide_eq_true c27
          clear c27
          replace H := Option.bind_eq_some_iff.mp H
          obtain ⟨t390, A280, H⟩ := H
          replace H : (if t390 = true then ((spec_BayDo.f x387000_1 x387001_1 x387002_1 x387003_1 (rd x6_3 x8_1)).bind fun bt392 => (spec_DrawBayRun.l0 k3 x6_3 (wrap64 (x8_1 + 1)) t373 x376001_18 t376 t377 t378 t379 bt392.1 bt392.2.1 bt392.2.2.1 bt392.2.2.2.1)) else (spec_DrawBayRun.l1 k3 (x6_3.set (x8_1 : Int).toNat (Int.tmod (wrap64 ((rd x6_3 x8_1) + 1)) 8)) x8_1 t373 x376001_18 t376 t377 t378 t379 x387000_1 x387001_1 x387002_1 x387003_1)) = some (r1, r2, r3, r4, r5) := H
          have A28 := Aside0.mk A280
          clear A280
          by_cases c29 : t390 = true
          ·subst c29
           have H1 : ((spec_BayDo.f x387000_1 x387001_1 x387002_1 x387003_1 (rd x6_3 x8_1)).bind fun bt392 => (spec_DrawBayRun.l0 k3 x6_3 (wrap64 (x8_1 + 1)) t373 x376001_18 t376 t377 t378 t379 bt392.1 bt392.2.1 bt392.2.2.1 bt392.2.2.2.1)) = some (r1, r2, r3, r4, r5) := by rw [if_pos rfl] at H; exact H
           clear H
           have H := H1
           clear H1
           replace H := Option.bind_eq_some_iff.mp H
           obtain ⟨⟨t392, t393, t394, t395, t396⟩, A300, H⟩ := H
           replace H : (spec_DrawBayRun.l0 k3 x6_3 (wrap64 (x8_1 + 1)) t373 x376001_18 t376 t377 t378 t379 t392 t393 t394 t395) = some (r1, r2, r3, r4, r5) := H
           have A30 := Aside0.mk A300
           clear A300
           have H' := Aside0.mk H
           clear H
           try go_wp2
           have n0_ := Aside0.mk (Kd.R_drew HO_6.out)
           have n1_ := Aside0.mk (blk_drew BK372.out)
           have n2_ := Aside0.mk (blk_drew BK381.out)
           have n3_ := Aside0.mk (blk_drew BK386.out)
           have n4_ := Aside0.mk (IsS133.drew HI375.out)
           have n5_ := Aside0.mk (below_drew1 HB.out)
           clear HO_6
           clear BK372
           clear BK381
           clear BK386
           clear HI375
           clear HB
           have HO_6 := n0_
           have BK372 := n1_
           have BK381 := n2_
           have BK386 := n3_
           have HI375 := n4_
           have HB := n5_
           clear n0_ n1_ n2_ n3_ n4_ n5_
           obtain ⟨Ao32, co32, eo32⟩ := Kd.R_slice HO_6.out
           (first | subst eo32 | (injection eo32 with f1_ f2_ f3_; have f4_ := f1_.symm; have f5_ := f3_.symm; clear f1_ f2_ f3_; subst f4_; subst f5_))
           have p389 : 0 ≤ (x8_1 : Int) := of_decide_eq_true (by first | (with_reducible assumption) | assumption)
           have q389 : x8_1 < (x6_3.length : Int) := of_decide_eq_true (by first | (with_reducible assumption) | assumption)
           obtain ⟨ad389, e389, hx389_0⟩ := Kd.at_int (Kd.R_reads' HO_6.out).2.2 x8_1 p389 q389
           cases e389
           replace p389 := eq_true p389
           replace q389 := eq_true q389
           refine start_ (n := 7) (S := fun w' => w'.cell? ⟨gb386, 0, none⟩ = some (.bool x387000_1) ∧ w'.cell? ⟨gb386, 1, none⟩ = some (.bool x387001_1) ∧ w'.cell? ⟨gb386, 2, none⟩ = some (.bool x387002_1) ∧ w'.cell? ⟨gb386, 3, none⟩ = some (.bool x387003_1) ∧ w'.cell? (ad389.add (x8_1).toNat) = some (.int .i64 (rd x6_3 x8_1))) (ds := []) (bz 7 0) (by kernel_rfl) rfl rfl ⟨(blk_cell BK386.out 0).trans rfl, (blk_cell BK386.out 1).trans rfl, (blk_cell BK386.out 2).trans rfl, (blk_cell BK386.out 3).trans rfl, hx389_0⟩ (fun hHeld => ?_)
           generalize wr.drew = w31 at HO_6 BK372 BK381 BK386 HI375 HB hx389_0 hHeld ⊢
           refine pure_ (i := 1) (N := some 30) (v := ?_) (a' := ?_) (bz 7 2) rfl rfl (by kernel_rfl) (fun _ _ _ h => h) (Or.inl ⟨by rfl, ?_⟩) ?_ ?_
           rotate_left
           ·intro w'
            go_simp
            with_reducible rfl
           rotate_left
           ·simp only [Act.put, List.setIfInBounds_toArray, List.set_cons_zero, List.set_cons_succ, i64_w, i32_w]
            rfl
           refine pure_ (i := 2) (N := some 31) (v := ?_) (a' := ?_) (bz 7 6) rfl rfl (by kernel_rfl) (fun _ _ _ h => h) (Or.inl ⟨by rfl, ?_⟩) ?_ ?_
           rotate_left
           ·intro w'
            go_simp
            with_reducible rfl
           rotate_left
           ·simp only [Act.put, List.setIfInBounds_toArray, List.set_cons_zero, List.set_cons_succ, i64_w, i32_w]
            rfl
           refine pure_ (i := 3) (N := some 32) (v := ?_) (a' := ?_) (bz 7 14) rfl rfl (by kernel_rfl) (fun _ _ _ h => h) (Or.inl ⟨by rfl, ?_⟩) ?_ ?_
           rotate_left
           ·intro w'
            go_simp
            with_reducible rfl
           rotate_left
           ·simp only [Act.put, List.setIfInBounds_toArray, List.set_cons_zero, List.set_cons_succ, i64_w, i32_w]
            rfl
           refine take_ (i := 0) (N := some 29) (v := ?_) (a' := ?_) (bz 7 15) rfl rfl (by kernel_rfl) (fun _ _ _ h => h) (Or.inl ⟨by rfl, ?_⟩) hHeld ?_ ?_
           rotate_left
           ·rintro w' ⟨s0, s1, s2, s3, s4⟩
            go_simp
            with_reducible rfl
           rotate_left
           ·simp only [Act.put, List.setIfInBounds_toArray, List.set_cons_zero, List.set_cons_succ, i64_w, i32_w]
            rfl
           refine take_ (i := 4) (N := some 33) (v := ?_) (a' := ?_) (bz 7 31) rfl rfl (by kernel_rfl) (fun _ _ _ h => h) (Or.inl ⟨by rfl, ?_⟩) hHeld ?_ ?_
           rotate_left
           ·rintro w' ⟨s0, s1, s2, s3, s4⟩
            go_simp
            with_reducible rfl
           rotate_left
           ·simp only [Act.put, List.setIfInBounds_toArray, List.set_cons_zero, List.set_cons_succ, i64_w, i32_w]
            rfl
           refine one_ (i := 5) (N := some 34) (bz 7 63) rfl rfl (by kernel_rfl) (by decide) (fun K hK => ?_)
           refine goes_ Tryd.func56 (by kernel_rfl) rfl #[.agg #[.bool x387000_1, .bool x387001_1, .bool x387002_1, .bool x387003_1], .int .i64 (rd x6_3 x8_1)] (by rfl) rfl rfl (by (try simp only [List.map_toArray, List.map_cons, List.map_nil]); first | done | rfl | (simp only [List.length_drop, List.length_take]; rfl)) ?_
           with_reducible refine (spec_BayMay.calls x387000_1 x387001_1 x387002_1 x387003_1 (rd x6_3 x8_1) true _ A28.out).mono ?_
           rintro e w33 ⟨rfl, hb⟩
           have HS4_ := (hb.cell (World.block_lt_of_cell? _ _ (hHeld.2.2.2.2))).trans (hHeld.2.2.2.2)
           refine ⟨_, rfl, ?_⟩
           have n0_ := rB HO_6 hb
           have n1_ := bkB BK372 hb
           have n2_ := bkB BK381 hb
           have n3_ := bkB BK386 hb
           have n4_ := Aside0.mk (IsS133.below (by repeat (first | (with_reducible first | exact HI375.out | apply IsS133.alloc | apply IsS133.drewN | apply IsS133.drew | apply IsS133.set_1 | refine IsS133.far ?_ NB375_372.out _ | refine IsS133.far ?_ NB375_381.out _ | refine IsS133.far ?_ NB375_386.out _) | exact HI375.out)) hb)
           have n5_ := Aside0.mk (below_step (by repeat (first | (with_reducible first | exact HB.out | apply below_alloc | apply pw_below_drewN | apply below_drew1 | refine below_set ?_ (IsS133.ge HI375.out) | refine below_set ?_ GE372.out | refine below_set ?_ GE381.out | refine below_set ?_ GE386.out) | exact HB.out)) hb)
           clear HO_6
           clear BK372
           clear BK381
           clear BK386
           clear HI375
           clear HB
           have HO_6 := n0_
           have BK372 := n1_
           have BK381 := n2_
           have BK386 := n3_
           have HI375 := n4_
           have HB := n5_
           clear n0_ n1_ n2_ n3_ n4_ n5_
           (try clear hb)
           (try clear hb2)
           (try clear hk)
           (try clear hi)
           refine hK.out _ _ ⟨(blk_cell BK386.out 0).trans rfl, (blk_cell BK386.out 1).trans rfl, (blk_cell BK386.out 2).trans rfl, (blk_cell BK386.out 3).trans rfl, HS4_⟩ (fun hHeld => ?_)
           clear hK K
           refine norm_ (a' := ?_) ?_ ?_
           rotate_left
           ·show Act.put _ (some 34) _ = _
            simp only [Act.put, List.setIfInBounds_toArray, List.set_cons_zero, List.set_cons_succ, i64_w, i32_w]
            rfl
           refine pure_ (i := 6) (N := some 35) (v := ?_) (a' := ?_) (bz 7 127) rfl rfl (by kernel_rfl) (fun _ _ _ h => h) (Or.inl ⟨by rfl, ?_⟩) ?_ ?_
           rotate_left
           ·intro w'
            go_simp
            with_reducible rfl
           rotate_left
           ·simp only [Act.put, List.setIfInBounds_toArray, List.set_cons_zero, List.set_cons_succ, i64_w, i32_w]
            rfl
           refine done_ (by kernel_rfl) ?_
           try go_wp2
           have n0_ := Aside0.mk (Kd.R_drew HO_6.out)
           have n1_ := Aside0.mk (blk_drew BK372.out)
           have n2_ := Aside0.mk (blk_drew BK381.out)
           have n3_ := Aside0.mk (blk_drew BK386.out)
           have n4_ := Aside0.mk (IsS133.drew HI375.out)
           have n5_ := Aside0.mk (below_drew1 HB.out)
           clear HO_6
           clear BK372
           clear BK381
           clear BK386
           clear HI375
           clear HB
           have HO_6 := n0_
           have BK372 := n1_
           have BK381 := n2_
           have BK386 := n3_
           have HI375 := n4_
           have HB := n5_
           clear n0_ n1_ n2_ n3_ n4_ n5_
           have p391 : 0 ≤ (x8_1 : Int) := of_decide_eq_true (by first | (with_reducible assumption) | assumption)
           have q391 : x8_1 < (x6_3.length : Int) := of_decide_eq_true (by first | (with_reducible assumption) | assumption)
           obtain ⟨ad391, e391, hx391_0⟩ := Kd.at_int (Kd.R_reads' HO_6.out).2.2 x8_1 p391 q391
           obtain rfl : ad389 = ad391 := (by injection e391)
           replace p391 := eq_true p391
           replace q391 := eq_true q391
           refine start_ (n := 12) (S := fun w' => w'.cell? ⟨gb386, 0, none⟩ = some (.bool x387000_1) ∧ w'.cell? ⟨gb386, 1, none⟩ = some (.bool x387001_1) ∧ w'.cell? ⟨gb386, 2, none⟩ = some (.bool x387002_1) ∧ w'.cell? ⟨gb386, 3, none⟩ = some (.bool x387003_1) ∧ w'.cell? (ad389.add (x8_1).toNat) = some (.int .i64 (rd x6_3 x8_1))) (ds := []) (bz 12 0) (by kernel_rfl) rfl rfl ⟨(blk_cell BK386.out 0).trans rfl, (blk_cell BK386.out 1).trans rfl, (blk_cell BK386.out 2).trans rfl, (blk_cell BK386.out 3).trans rfl, hx391_0⟩ (fun hHeld => ?_); refine with_tabW spec_DrawBayRun.tab10 spec_DrawBayRun.bits10 (fun HT_ HW_ => ?_)
           generalize w33.drew = w34 at HO_6 BK372 BK381 BK386 HI375 HB hx391_0 hHeld ⊢
           refine pure_ (i := 1) (N := some 47) (v := ?_) (a' := ?_) (bz 12 2) rfl rfl (any_of HT_.out (by kernel_rfl)) (fun _ _ _ h => h) (Or.inl ⟨by rfl, ?_⟩) ?_ ?_
           rotate_left
           ·intro w'
            go_simp
            with_reducible rfl
           rotate_left
           ·simp only [Act.put, List.setIfInBounds_toArray, List.set_cons_zero, List.set_cons_succ, i64_w, i32_w]
            rfl
           refine pure_ (i := 2) (N := some 48) (v := ?_) (a' := ?_) (bz 12 6) rfl rfl (any_of HT_.out (by kernel_rfl)) (fun _ _ _ h => h) (Or.inl ⟨by rfl, ?_⟩) ?_ ?_
           rotate_left
           ·intro w'
            go_simp
            with_reducible rfl
           rotate_left
           ·simp only [Act.put, List.setIfInBounds_toArray, List.set_cons_zero, List.set_cons_succ, i64_w, i32_w]
            rfl
           refine pure_ (i := 3) (N := some 49) (v := ?_) (a' := ?_) (bz 12 14) rfl rfl (any_of HT_.out (by kernel_rfl)) (fun _ _ _ h => h) (Or.inl ⟨by rfl, ?_⟩) ?_ ?_
           rotate_left
           ·intro w'
            go_simp
            with_reducible rfl
           rotate_left
           ·simp only [Act.put, List.setIfInBounds_toArray, List.set_cons_zero, List.set_cons_succ, i64_w, i32_w]
            rfl
           refine take_ (i := 0) (N := some 46) (v := ?_) (a' := ?_) (bz 12 15) rfl rfl (take_ofW HT_.out HW_.out (by kernel_rfl)) (fun _ _ _ h => h) (Or.inl ⟨by rfl, ?_⟩) hHeld ?_ ?_
           rotate_left
           ·rintro w' ⟨s0, s1, s2, s3, s4⟩
            go_simp
            with_reducible rfl
           rotate_left
           ·simp only [Act.put, List.setIfInBounds_toArray, List.set_cons_zero, List.set_cons_succ, i64_w, i32_w]
            rfl
           refine take_ (i := 4) (N := some 50) (v := ?_) (a' := ?_) (bz 12 31) rfl rfl (take_ofW HT_.out HW_.out (by kernel_rfl)) (fun _ _ _ h => h) (Or.inl ⟨by rfl, ?_⟩) hHeld ?_ ?_
           rotate_left
           ·rintro w' ⟨s0, s1, s2, s3, s4⟩
            go_simp
            with_reducible rfl
           rotate_left
           ·simp only [Act.put, List.setIfInBounds_toArray, List.set_cons_zero, List.set_cons_succ, i64_w, i32_w]
            rfl
           refine join_ (σ := Nat) 2 (bz 12 1023) (fun s_ => [(51, .tuple #[.agg #[.bool t392, .bool t393, .bool t394, .bool t395], .bool t396]), (9, .pointer (some ⟨s_, 0, none⟩)), (45, .tuple #[.agg #[.bool t392, .bool t393, .bool t394, .bool t395], .bool t396]), (52, .agg #[.bool t392, .bool t393, .bool t394, .bool t395]), (53, .bool t396)]) (fun s_ w' => (w'.cell? ⟨gb386, 0, none⟩ = some (.bool x387000_1) ∧ w'.cell? ⟨gb386, 1, none⟩ = some (.bool x387001_1) ∧ w'.cell? ⟨gb386, 2, none⟩ = some (.bool x387002_1) ∧ w'.cell? ⟨gb386, 3, none⟩ = some (.bool x387003_1) ∧ w'.cell? (ad389.add (x8_1).toNat) = some (.int .i64 (rd x6_3 x8_1))) ∧ (Kd.R (Kd.int .i64) 3 w' w.heap.size (fun _ => True) (.slice (some ad389) x6_3.length co32) x6_3) ∧ (w'.heap[gb372]? = some (.cells #[.bool false, .bool false, .bool false, .bool false] 59 (0, 0))) ∧ (w'.heap[gb381]? = some (.cells #[.bool t376, .bool t377, .bool t378, .bool t379] 59 (0, 0))) ∧ (w'.heap[gb386]? = some (.cells #[.bool x387000_1, .bool x387001_1, .bool x387002_1, .bool x387003_1] 59 (0, 0))) ∧ (w'.heap[s_]? = some (.cells #[.bool false, .bool false, .bool false, .bool false] 59 (0, 0))) ∧ (w.heap.size ≤ s_) ∧ (w.heap.size ≤ s_) ∧ (g375 ≠ s_) ∧ (s_ ≠ g375) ∧ (gb372 ≠ s_) ∧ (s_ ≠ gb372) ∧ (gb381 ≠ s_) ∧ (s_ ≠ gb381) ∧ (gb386 ≠ s_) ∧ (s_ ≠ gb386) ∧ (IsS133 w w' g375 t373 x376001_18) ∧ (Below w.heap.size w w')) ?_ ?_
           rotate_left
           ·intro hCont
            refine two_ (i := 5) (j := 9) (Ni := some 51) (Nj := some 9) (bz 12 63) (bz 12 543) rfl rfl rfl rfl (two_of HT_.out (by kernel_rfl)) (by decide) (by decide) (fun K hK => ?_) (fun K hK => ?_)
            ·skip
             refine goes_ Tryd.func63 (by kernel_rfl) rfl #[.agg #[.bool x387000_1, .bool x387001_1, .bool x387002_1, .bool x387003_1], .int .i64 (rd x6_3 x8_1)] (by rfl) rfl rfl (by (try simp only [List.map_toArray, List.map_cons, List.map_nil]); first | done | rfl | (simp only [List.length_drop, List.length_take]; rfl)) ?_
             with_reducible refine (spec_BayDo.calls x387000_1 x387001_1 x387002_1 x387003_1 (rd x6_3 x8_1) t392 t393 t394 t395 t396 _ A30.out).mono ?_
             rintro e w35 ⟨rfl, hb⟩
             have HS4_ := (hb.cell (World.block_lt_of_cell? _ _ (hHeld.2.2.2.2))).trans (hHeld.2.2.2.2)
             refine ⟨_, rfl, ?_⟩
             have n0_ := rB HO_6 hb
             have n1_ := bkB BK372 hb
             have n2_ := bkB BK381 hb
             have n3_ := bkB BK386 hb
             have n4_ := Aside0.mk (IsS133.below (by repeat (first | (with_reducible first | exact HI375.out | apply IsS133.alloc | apply IsS133.drewN | apply IsS133.drew | apply IsS133.set_1 | refine IsS133.far ?_ NB375_372.out _ | refine IsS133.far ?_ NB375_381.out _ | refine IsS133.far ?_ NB375_386.out _) | exact HI375.out)) hb)
             have n5_ := Aside0.mk (below_step (by repeat (first | (with_reducible first | exact HB.out | apply below_alloc | apply pw_below_drewN | apply below_drew1 | refine below_set ?_ (IsS133.ge HI375.out) | refine below_set ?_ GE372.out | refine below_set ?_ GE381.out | refine below_set ?_ GE386.out) | exact HB.out)) hb)
             clear HO_6
             clear BK372
             clear BK381
             clear BK386
             clear HI375
             clear HB
             have HO_6 := n0_
             have BK372 := n1_
             have BK381 := n2_
             have BK386 := n3_
             have HI375 := n4_
             have HB := n5_
             clear n0_ n1_ n2_ n3_ n4_ n5_
             (try clear hb)
             (try clear hb2)
             (try clear hk)
             (try clear hi)
             refine hK.out _ _ ⟨(blk_cell BK386.out 0).trans rfl, (blk_cell BK386.out 1).trans rfl, (blk_cell BK386.out 2).trans rfl, (blk_cell BK386.out 3).trans rfl, HS4_⟩ (fun hHeld => ?_)
             clear hK K
             refine norm_ (a' := ?_) ?_ ?_
             rotate_left
             ·show Act.put _ (some 51) _ = _
              simp only [Act.put, List.setIfInBounds_toArray, List.set_cons_zero, List.set_cons_succ, i64_w, i32_w]
              rfl
             refine pure_ (i := 6) (N := some 45) (v := ?_) (a' := ?_) (bz 12 127) rfl rfl (any_of HT_.out (by kernel_rfl)) (fun _ _ _ h => h) (Or.inl ⟨by rfl, ?_⟩) ?_ ?_
             rotate_left
             ·intro w'
              go_simp
              with_reducible rfl
             rotate_left
             ·simp only [Act.put, List.setIfInBounds_toArray, List.set_cons_zero, List.set_cons_succ, i64_w, i32_w]
              rfl
             refine pure_ (i := 7) (N := some 52) (v := ?_) (a' := ?_) (bz 12 255) rfl rfl (any_of HT_.out (by kernel_rfl)) (fun _ _ _ h => h) (Or.inl ⟨by rfl, ?_⟩) ?_ ?_
             rotate_left
             ·intro w'
              go_simp
              with_reducible rfl
             rotate_left
             ·simp only [Act.put, List.setIfInBounds_toArray, List.set_cons_zero, List.set_cons_succ, i64_w, i32_w]
              rfl
             refine pure_ (i := 8) (N := some 53) (v := ?_) (a' := ?_) (bz 12 511) rfl rfl (any_of HT_.out (by kernel_rfl)) (fun _ _ _ h => h) (Or.inl ⟨by rfl, ?_⟩) ?_ ?_
             rotate_left
             ·intro w'
              go_simp
              with_reducible rfl
             rotate_left
             ·simp only [Act.put, List.setIfInBounds_toArray, List.set_cons_zero, List.set_cons_succ, i64_w, i32_w]
              rfl
             refine one_ (i := 9) (N := some 9) (bz 12 1023) rfl rfl (one_of HT_.out (by kernel_rfl)) (by decide) (fun K hK => ?_)
             refine box_step ?hg (N := 9) ?hd (cs := #[.bool false, .bool false, .bool false, .bool false]) (t := 59) ?hr ?_; (case hd => rfl); (case hg => rfl); (case hr => first | (go_simp; done) | (go_simp; rfl))
             intro gb397 hg w36 hbox hb
             have HS4_ := (hb.cell (World.block_lt_of_cell? _ _ (hHeld.2.2.2.2))).trans (hHeld.2.2.2.2)
             have n0_ := rB HO_6 hb
             have n1_ := bkB BK372 hb
             have n2_ := bkB BK381 hb
             have n3_ := bkB BK386 hb
             have n4_ := Aside0.mk (IsS133.below (by repeat (first | (with_reducible first | exact HI375.out | apply IsS133.alloc | apply IsS133.drewN | apply IsS133.drew | apply IsS133.set_1 | refine IsS133.far ?_ NB375_372.out _ | refine IsS133.far ?_ NB375_381.out _ | refine IsS133.far ?_ NB375_386.out _) | exact HI375.out)) hb)
             have n5_ := Aside0.mk (below_step (by repeat (first | (with_reducible first | exact HB.out | apply below_alloc | apply pw_below_drewN | apply below_drew1 | refine below_set ?_ (IsS133.ge HI375.out) | refine below_set ?_ GE372.out | refine below_set ?_ GE381.out | refine below_set ?_ GE386.out) | exact HB.out)) hb)
             have n6_ := Aside0.mk (hbox)
             have n7_ := Aside0.mk ((by rw [hg]; exact (below_size (by repeat (first | (with_reducible first | exact HB.out | apply below_alloc | apply pw_below_drewN | apply below_drew1 | refine below_set ?_ (IsS133.ge HI375.out) | refine below_set ?_ GE372.out | refine below_set ?_ GE381.out | refine below_set ?_ GE386.out) | exact HB.out))) : w.heap.size ≤ gb397))
             have n8_ := Aside0.mk ((by rw [hg]; exact (below_size (by repeat (first | (with_reducible first | exact HB.out | apply below_alloc | apply pw_below_drewN | apply below_drew1 | refine below_set ?_ (IsS133.ge HI375.out) | refine below_set ?_ GE372.out | refine below_set ?_ GE381.out | refine below_set ?_ GE386.out) | exact HB.out))) : w.heap.size ≤ gb397))
             have n9_ := Aside0.mk ((by rw [hg]; exact Nat.ne_of_lt (blk_lt (g := gb372) (o := .cells #[.bool false, .bool false, .bool false, .bool false] 59 (0, 0)) (bk BK372)) : gb372 ≠ gb397))
             have n10_ := Aside0.mk ((by rw [hg]; exact Nat.ne_of_gt (blk_lt (g := gb372) (o := .cells #[.bool false, .bool false, .bool false, .bool false] 59 (0, 0)) (bk BK372)) : gb397 ≠ gb372))
             have n11_ := Aside0.mk ((by rw [hg]; exact Nat.ne_of_lt (blk_lt (g := gb381) (o := .cells #[.bool t376, .bool t377, .bool t378, .bool t379] 59 (0, 0)) (bk BK381)) : gb381 ≠ gb397))
             have n12_ := Aside0.mk ((by rw [hg]; exact Nat.ne_of_gt (blk_lt (g := gb381) (o := .cells #[.bool t376, .bool t377, .bool t378, .bool t379] 59 (0, 0)) (bk BK381)) : gb397 ≠ gb381))
             have n13_ := Aside0.mk ((by rw [hg]; exact Nat.ne_of_lt (blk_lt (g := gb386) (o := .cells #[.bool x387000_1, .bool x387001_1, .bool x387002_1, .bool x387003_1] 59 (0, 0)) (bk BK386)) : gb386 ≠ gb397))
             have n14_ := Aside0.mk ((by rw [hg]; exact Nat.ne_of_gt (blk_lt (g := gb386) (o := .cells #[.bool x387000_1, .bool x387001_1, .bool x387002_1, .bool x387003_1] 59 (0, 0)) (bk BK386)) : gb397 ≠ gb386))
             have n15_ := Aside0.mk ((by rw [hg]; exact Nat.ne_of_lt (IsS133.lt (show IsS133 w _ g375 t373 x376001_18 from by repeat (first | (with_reducible first | exact HI375.out | apply IsS133.alloc | apply IsS133.drewN | apply IsS133.drew | apply IsS133.set_1 | refine IsS133.far ?_ NB375_372.out _ | refine IsS133.far ?_ NB375_381.out _ | refine IsS133.far ?_ NB375_386.out _) | exact HI375.out))) : g375 ≠ gb397))
             have n16_ := Aside0.mk ((by rw [hg]; exact Nat.ne_of_gt (IsS133.lt (show IsS133 w _ g375 t373 x376001_18 from by repeat (first | (with_reducible first | exact HI375.out | apply IsS133.alloc | apply IsS133.drewN | apply IsS133.drew | apply IsS133.set_1 | refine IsS133.far ?_ NB375_372.out _ | refine IsS133.far ?_ NB375_381.out _ | refine IsS133.far ?_ NB375_386.out _) | exact HI375.out))) : gb397 ≠ g375))
             clear HO_6
             clear BK372
             clear BK381
             clear BK386
             clear HI375
             clear HB
             have HO_6 := n0_
             have BK372 := n1_
             have BK381 := n2_
             have BK386 := n3_
             have HI375 := n4_
             have HB := n5_
             have BK397 := n6_
             have GW397 := n7_
             have GE397 := n8_
             have NB372_397 := n9_
             have NB397_372 := n10_
             have NB381_397 := n11_
             have NB397_381 := n12_
             have NB386_397 := n13_
             have NB397_386 := n14_
             have NB375_397 := n15_
             have NB397_375 := n16_
             clear n0_ n1_ n2_ n3_ n4_ n5_ n6_ n7_ n8_ n9_ n10_ n11_ n12_ n13_ n14_ n15_ n16_
             clear hb hbox hg
             refine hK.out _ _ ⟨(blk_cell BK386.out 0).trans rfl, (blk_cell BK386.out 1).trans rfl, (blk_cell BK386.out 2).trans rfl, (blk_cell BK386.out 3).trans rfl, HS4_⟩ (fun hHeld => ?_)
             clear hK K
             refine norm_ (a' := ?_) ?_ ?_
             rotate_left
             ·show Act.put _ (some 9) _ = _
              simp only [Act.put, List.setIfInBounds_toArray, List.set_cons_zero, List.set_cons_succ, i64_w, i32_w]
              rfl
             exact norm_ (by simp only [putAll, Act.put, List.setIfInBounds_toArray, List.set_cons_zero, List.set_cons_succ]) (hCont (gb397) _ ⟨hHeld, (rk HO_6), (bk BK372), (bk BK381), (bk BK386), (bk BK397), GW397.out, GE397.out, NB375_397.out, NB397_375.out, NB372_397.out, NB397_372.out, NB381_397.out, NB397_381.out, NB386_397.out, NB397_386.out, (by repeat (first | (with_reducible first | exact HI375.out | apply IsS133.alloc | apply IsS133.drewN | apply IsS133.drew | apply IsS133.set_1 | refine IsS133.far ?_ NB375_372.out _ | refine IsS133.far ?_ NB375_381.out _ | refine IsS133.far ?_ NB375_386.out _ | refine IsS133.far ?_ NB375_397.out _) | exact HI375.out)), (by repeat (first | (with_reducible first | exact HB.out | apply below_alloc | apply pw_below_drewN | apply below_drew1 | refine below_set ?_ (IsS133.ge HI375.out) | refine below_set ?_ GE372.out | refine below_set ?_ GE381.out | refine below_set ?_ GE386.out | refine below_set ?_ GE397.out) | exact HB.out))⟩)
            ·skip
             refine box_step ?hg (N := 9) ?hd (cs := #[.bool false, .bool false, .bool false, .bool false]) (t := 59) ?hr ?_; (case hd => rfl); (case hg => rfl); (case hr => first | (go_simp; done) | (go_simp; rfl))
             intro gb397 hg w35 hbox hb
             have HS4_ := (hb.cell (World.block_lt_of_cell? _ _ (hHeld.2.2.2.2))).trans (hHeld.2.2.2.2)
             have n0_ := rB HO_6 hb
             have n1_ := bkB BK372 hb
             have n2_ := bkB BK381 hb
             have n3_ := bkB BK386 hb
             have n4_ := Aside0.mk (IsS133.below (by repeat (first | (with_reducible first | exact HI375.out | apply IsS133.alloc | apply IsS133.drewN | apply IsS133.drew | apply IsS133.set_1 | refine IsS133.far ?_ NB375_372.out _ | refine IsS133.far ?_ NB375_381.out _ | refine IsS133.far ?_ NB375_386.out _) | exact HI375.out)) hb)
             have n5_ := Aside0.mk (below_step (by repeat (first | (with_reducible first | exact HB.out | apply below_alloc | apply pw_below_drewN | apply below_drew1 | refine below_set ?_ (IsS133.ge HI375.out) | refine below_set ?_ GE372.out | refine below_set ?_ GE381.out | refine below_set ?_ GE386.out) | exact HB.out)) hb)
             have n6_ := Aside0.mk (hbox)
             have n7_ := Aside0.mk ((by rw [hg]; exact (below_size (by repeat (first | (with_reducible first | exact HB.out | apply below_alloc | apply pw_below_drewN | apply below_drew1 | refine below_set ?_ (IsS133.ge HI375.out) | refine below_set ?_ GE372.out | refine below_set ?_ GE381.out | refine below_set ?_ GE386.out) | exact HB.out))) : w.heap.size ≤ gb397))
             have n8_ := Aside0.mk ((by rw [hg]; exact (below_size (by repeat (first | (with_reducible first | exact HB.out | apply below_alloc | apply pw_below_drewN | apply below_drew1 | refine below_set ?_ (IsS133.ge HI375.out) | refine below_set ?_ GE372.out | refine below_set ?_ GE381.out | refine below_set ?_ GE386.out) | exact HB.out))) : w.heap.size ≤ gb397))
             have n9_ := Aside0.mk ((by rw [hg]; exact Nat.ne_of_lt (blk_lt (g := gb372) (o := .cells #[.bool false, .bool false, .bool false, .bool false] 59 (0, 0)) (bk BK372)) : gb372 ≠ gb397))
             have n10_ := Aside0.mk ((by rw [hg]; exact Nat.ne_of_gt (blk_lt (g := gb372) (o := .cells #[.bool false, .bool false, .bool false, .bool false] 59 (0, 0)) (bk BK372)) : gb397 ≠ gb372))
             have n11_ := Aside0.mk ((by rw [hg]; exact Nat.ne_of_lt (blk_lt (g := gb381) (o := .cells #[.bool t376, .bool t377, .bool t378, .bool t379] 59 (0, 0)) (bk BK381)) : gb381 ≠ gb397))
             have n12_ := Aside0.mk ((by rw [hg]; exact Nat.ne_of_gt (blk_lt (g := gb381) (o := .cells #[.bool t376, .bool t377, .bool t378, .bool t379] 59 (0, 0)) (bk BK381)) : gb397 ≠ gb381))
             have n13_ := Aside0.mk ((by rw [hg]; exact Nat.ne_of_lt (blk_lt (g := gb386) (o := .cells #[.bool x387000_1, .bool x387001_1, .bool x387002_1, .bool x387003_1] 59 (0, 0)) (bk BK386)) : gb386 ≠ gb397))
             have n14_ := Aside0.mk ((by rw [hg]; exact Nat.ne_of_gt (blk_lt (g := gb386) (o := .cells #[.bool x387000_1, .bool x387001_1, .bool x387002_1, .bool x387003_1] 59 (0, 0)) (bk BK386)) : gb397 ≠ gb386))
             have n15_ := Aside0.mk ((by rw [hg]; exact Nat.ne_of_lt (IsS133.lt (show IsS133 w _ g375 t373 x376001_18 from by repeat (first | (with_reducible first | exact HI375.out | apply IsS133.alloc | apply IsS133.drewN | apply IsS133.drew | apply IsS133.set_1 | refine IsS133.far ?_ NB375_372.out _ | refine IsS133.far ?_ NB375_381.out _ | refine IsS133.far ?_ NB375_386.out _) | exact HI375.out))) : g375 ≠ gb397))
             have n16_ := Aside0.mk ((by rw [hg]; exact Nat.ne_of_gt (IsS133.lt (show IsS133 w _ g375 t373 x376001_18 from by repeat (first | (with_reducible first | exact HI375.out | apply IsS133.alloc | apply IsS133.drewN | apply IsS133.drew | apply IsS133.set_1 | refine IsS133.far ?_ NB375_372.out _ | refine IsS133.far ?_ NB375_381.out _ | refine IsS133.far ?_ NB375_386.out _) | exact HI375.out))) : gb397 ≠ g375))
             clear HO_6
             clear BK372
             clear BK381
             clear BK386
             clear HI375
             clear HB
             have HO_6 := n0_
             have BK372 := n1_
             have BK381 := n2_
             have BK386 := n3_
             have HI375 := n4_
             have HB := n5_
             have BK397 := n6_
             have GW397 := n7_
             have GE397 := n8_
             have NB372_397 := n9_
             have NB397_372 := n10_
             have NB381_397 := n11_
             have NB397_381 := n12_
             have NB386_397 := n13_
             have NB397_386 := n14_
             have NB375_397 := n15_
             have NB397_375 := n16_
             clear n0_ n1_ n2_ n3_ n4_ n5_ n6_ n7_ n8_ n9_ n10_ n11_ n12_ n13_ n14_ n15_ n16_
             clear hb hbox hg
             refine hK.out _ _ ⟨(blk_cell BK386.out 0).trans rfl, (blk_cell BK386.out 1).trans rfl, (blk_cell BK386.out 2).trans rfl, (blk_cell BK386.out 3).trans rfl, HS4_⟩ (fun hHeld => ?_)
             clear hK K
             refine norm_ (a' := ?_) ?_ ?_
             rotate_left
             ·show Act.put _ (some 9) _ = _
              simp only [Act.put, List.setIfInBounds_toArray, List.set_cons_zero, List.set_cons_succ, i64_w, i32_w]
              rfl
             refine one_ (i := 5) (N := some 51) (bz 12 575) rfl rfl (one_of HT_.out (by kernel_rfl)) (by decide) (fun K hK => ?_)
             refine goes_ Tryd.func63 (by kernel_rfl) rfl #[.agg #[.bool x387000_1, .bool x387001_1, .bool x387002_1, .bool x387003_1], .int .i64 (rd x6_3 x8_1)] (by rfl) rfl rfl (by (try simp only [List.map_toArray, List.map_cons, List.map_nil]); first | done | rfl | (simp only [List.length_drop, List.length_take]; rfl)) ?_
             with_reducible refine (spec_BayDo.calls x387000_1 x387001_1 x387002_1 x387003_1 (rd x6_3 x8_1) t392 t393 t394 t395 t396 _ A30.out).mono ?_
             rintro e w36 ⟨rfl, hb⟩
             have HS4_ := (hb.cell (World.block_lt_of_cell? _ _ (hHeld.2.2.2.2))).trans (hHeld.2.2.2.2)
             refine ⟨_, rfl, ?_⟩
             have n0_ := rB HO_6 hb
             have n1_ := bkB BK372 hb
             have n2_ := bkB BK381 hb
             have n3_ := bkB BK386 hb
             have n4_ := Aside0.mk (IsS133.below (by repeat (first | (with_reducible first | exact HI375.out | apply IsS133.alloc | apply IsS133.drewN | apply IsS133.drew | apply IsS133.set_1 | refine IsS133.far ?_ NB375_372.out _ | refine IsS133.far ?_ NB375_381.out _ | refine IsS133.far ?_ NB375_386.out _ | refine IsS133.far ?_ NB375_397.out _) | exact HI375.out)) hb)
             have n5_ := bkB BK397 hb
             have n6_ := Aside0.mk (below_step (by repeat (first | (with_reducible first | exact HB.out | apply below_alloc | apply pw_below_drewN | apply below_drew1 | refine below_set ?_ (IsS133.ge HI375.out) | refine below_set ?_ GE372.out | refine below_set ?_ GE381.out | refine below_set ?_ GE386.out | refine below_set ?_ GE397.out) | exact HB.out)) hb)
             clear HO_6
             clear BK372
             clear BK381
             clear BK386
             clear HI375
             clear BK397
             clear HB
             have HO_6 := n0_
             have BK372 := n1_
             have BK381 := n2_
             have BK386 := n3_
             have HI375 := n4_
             have BK397 := n5_
             have HB := n6_
             clear n0_ n1_ n2_ n3_ n4_ n5_ n6_
             (try clear hb)
             (try clear hb2)
             (try clear hk)
             (try clear hi)
             refine hK.out _ _ ⟨(blk_cell BK386.out 0).trans rfl, (blk_cell BK386.out 1).trans rfl, (blk_cell BK386.out 2).trans rfl, (blk_cell BK386.out 3).trans rfl, HS4_⟩ (fun hHeld => ?_)
             clear hK K
             refine norm_ (a' := ?_) ?_ ?_
             rotate_left
             ·show Act.put _ (some 51) _ = _
              simp only [Act.put, List.setIfInBounds_toArray, List.set_cons_zero, List.set_cons_succ, i64_w, i32_w]
              rfl
             refine pure_ (i := 6) (N := some 45) (v := ?_) (a' := ?_) (bz 12 639) rfl rfl (any_of HT_.out (by kernel_rfl)) (fun _ _ _ h => h) (Or.inl ⟨by rfl, ?_⟩) ?_ ?_
             rotate_left
             ·intro w'
              go_simp
              with_reducible rfl
             rotate_left
             ·simp only [Act.put, List.setIfInBounds_toArray, List.set_cons_zero, List.set_cons_succ, i64_w, i32_w]
              rfl
             refine pure_ (i := 7) (N := some 52) (v := ?_) (a' := ?_) (bz 12 767) rfl rfl (any_of HT_.out (by kernel_rfl)) (fun _ _ _ h => h) (Or.inl ⟨by rfl, ?_⟩) ?_ ?_
             rotate_left
             ·intro w'
              go_simp
              with_reducible rfl
             rotate_left
             ·simp only [Act.put, List.setIfInBounds_toArray, List.set_cons_zero, List.set_cons_succ, i64_w, i32_w]
              rfl
             refine pure_ (i := 8) (N := some 53) (v := ?_) (a' := ?_) (bz 12 1023) rfl rfl (any_of HT_.out (by kernel_rfl)) (fun _ _ _ h => h) (Or.inl ⟨by rfl, ?_⟩) ?_ ?_
             rotate_left
             ·intro w'
              go_simp
              with_reducible rfl
             rotate_left
             ·simp only [Act.put, List.setIfInBounds_toArray, List.set_cons_zero, List.set_cons_succ, i64_w, i32_w]
              rfl
             exact norm_ (by simp only [putAll, Act.put, List.setIfInBounds_toArray, List.set_cons_zero, List.set_cons_succ]) (hCont (gb397) _ ⟨hHeld, (rk HO_6), (bk BK372), (bk BK381), (bk BK386), (bk BK397), GW397.out, GE397.out, NB375_397.out, NB397_375.out, NB372_397.out, NB397_372.out, NB381_397.out, NB397_381.out, NB386_397.out, NB397_386.out, (by repeat (first | (with_reducible first | exact HI375.out | apply IsS133.alloc | apply IsS133.drewN | apply IsS133.drew | apply IsS133.set_1 | refine IsS133.far ?_ NB375_372.out _ | refine IsS133.far ?_ NB375_381.out _ | refine IsS133.far ?_ NB375_386.out _ | refine IsS133.far ?_ NB375_397.out _) | exact HI375.out)), (by repeat (first | (with_reducible first | exact HB.out | apply below_alloc | apply pw_below_drewN | apply below_drew1 | refine below_set ?_ (IsS133.ge HI375.out) | refine below_set ?_ GE372.out | refine below_set ?_ GE381.out | refine below_set ?_ GE386.out | refine below_set ?_ GE397.out) | exact HB.out))⟩)
           rintro gb397 w37 ⟨hS_, h0_, h1_, h2_, h3_, h4_, h5_, h6_, h7_, h8_, h9_, h10_, h11_, h12_, h13_, h14_, h15_, h16_⟩
           have n0_ : Aside0 (Kd.R (Kd.int .i64) 3 w37 w.heap.size (fun _ => True) (.slice (some ad389) x6_3.length co32) x6_3) := ⟨h0_⟩
           have n1_ : Aside0 (w37.heap[gb372]? = some (.cells #[.bool false, .bool false, .bool false, .bool false] 59 (0, 0))) := ⟨h1_⟩
           have n2_ : Aside0 (w37.heap[gb381]? = some (.cells #[.bool t376, .bool t377, .bool t378, .bool t379] 59 (0, 0))) := ⟨h2_⟩
           have n3_ : Aside0 (w37.heap[gb386]? = some (.cells #[.bool x387000_1, .bool x387001_1, .bool x387002_1, .bool x387003_1] 59 (0, 0))) := ⟨h3_⟩
           have n4_ : Aside0 (w37.heap[gb397]? = some (.cells #[.bool false, .bool false, .bool false, .bool false] 59 (0, 0))) := ⟨h4_⟩
           have n5_ : Aside0 (w.heap.size ≤ gb397) := ⟨h5_⟩
           have n6_ : Aside0 (w.heap.size ≤ gb397) := ⟨h6_⟩
           have n7_ : Aside0 (g375 ≠ gb397) := ⟨h7_⟩
           have n8_ : Aside0 (gb397 ≠ g375) := ⟨h8_⟩
           have n9_ : Aside0 (gb372 ≠ gb397) := ⟨h9_⟩
           have n10_ : Aside0 (gb397 ≠ gb372) := ⟨h10_⟩
           have n11_ : Aside0 (gb381 ≠ gb397) := ⟨h11_⟩
           have n12_ : Aside0 (gb397 ≠ gb381) := ⟨h12_⟩
           have n13_ : Aside0 (gb386 ≠ gb397) := ⟨h13_⟩
           have n14_ : Aside0 (gb397 ≠ gb386) := ⟨h14_⟩
           have n15_ : Aside0 (IsS133 w w37 g375 t373 x376001_18) := ⟨h15_⟩
           have n16_ : Aside0 (Below w.heap.size w w37) := ⟨h16_⟩
           clear HO_6
           clear BK372
           clear BK381
           clear BK386
           clear HI375
           clear HB
           clear h0_ h1_ h2_ h3_ h4_ h5_ h6_ h7_ h8_ h9_ h10_ h11_ h12_ h13_ h14_ h15_ h16_
           have HO_6 := n0_
           have BK372 := n1_
           have BK381 := n2_
           have BK386 := n3_
           have BK397 := n4_
           have GW397 := n5_
           have GE397 := n6_
           have NB375_397 := n7_
           have NB397_375 := n8_
           have NB372_397 := n9_
           have NB397_372 := n10_
           have NB381_397 := n11_
           have NB397_381 := n12_
           have NB386_397 := n13_
           have NB397_386 := n14_
           have HI375 := n15_
           have HB := n16_
           clear n0_ n1_ n2_ n3_ n4_ n5_ n6_ n7_ n8_ n9_ n10_ n11_ n12_ n13_ n14_ n15_ n16_
           have hHeld : w37.cell? ⟨gb386, 0, none⟩ = some (.bool x387000_1) ∧ w37.cell? ⟨gb386, 1, none⟩ = some (.bool x387001_1) ∧ w37.cell? ⟨gb386, 2, none⟩ = some (.bool x387002_1) ∧ w37.cell? ⟨gb386, 3, none⟩ = some (.bool x387003_1) ∧ w37.cell? (ad389.add (x8_1).toNat) = some (.int .i64 (rd x6_3 x8_1)) := hS_
           refine norm_ (a' := ?_) ?_ ?_
           rotate_left
           ·simp only [putAll, Act.put, List.setIfInBounds_toArray, List.set_cons_zero, List.set_cons_succ]
            rfl
           refine one_ (i := 10) (N := none) (bz 12 2047) rfl rfl (one_of HT_.out (by kernel_rfl)) (by decide) (fun K hK => ?_)
           have hs38 : w37.cell? ⟨gb397, 0, none⟩ = some (.bool false) := (blk_cell BK397.out 0).trans rfl
           have hfs38 := blk_frozen BK397.out 0
           have hns38_0 := NB372_397.out
           have hns38_1 := NB381_397.out
           have hns38_2 := NB386_397.out
           have hms38_0 := NB397_372.out
           have hms38_1 := NB397_381.out
           have hms38_2 := NB397_386.out
           have hs39 : w37.cell? ⟨gb397, 1, none⟩ = some (.bool false) := (blk_cell BK397.out 1).trans rfl
           have hfs39 := blk_frozen BK397.out 1
           have hns39_0 := NB372_397.out
           have hns39_1 := NB381_397.out
           have hns39_2 := NB386_397.out
           have hms39_0 := NB397_372.out
           have hms39_1 := NB397_381.out
           have hms39_2 := NB397_386.out
           have hs40 : w37.cell? ⟨gb397, 2, none⟩ = some (.bool false) := (blk_cell BK397.out 2).trans rfl
           have hfs40 := blk_frozen BK397.out 2
           have hns40_0 := NB372_397.out
           have hns40_1 := NB381_397.out
           have hns40_2 := NB386_397.out
           have hms40_0 := NB397_372.out
           have hms40_1 := NB397_381.out
           have hms40_2 := NB397_386.out
           have hs41 : w37.cell? ⟨gb397, 3, none⟩ = some (.bool false) := (blk_cell BK397.out 3).trans rfl
           have hfs41 := blk_frozen BK397.out 3
           have hns41_0 := NB372_397.out
           have hns41_1 := NB381_397.out
           have hns41_2 := NB386_397.out
           have hms41_0 := NB397_372.out
           have hms41_1 := NB397_381.out
           have hms41_2 := NB397_386.out
           refine skip_ (w1 := ?_) (by rfl) rfl ?_ ?_
           rotate_left
           ·go_simp
            rfl
           refine hK.out _ _ ⟨((cell_far (p := ⟨gb397, _, none⟩) NB386_397.out _).trans (((cell_far (p := ⟨gb397, _, none⟩) NB386_397.out _).trans (((cell_far (p := ⟨gb397, _, none⟩) NB386_397.out _).trans (((cell_far (p := ⟨gb397, _, none⟩) NB386_397.out _).trans (hHeld.1)))))))), ((cell_far (p := ⟨gb397, _, none⟩) NB386_397.out _).trans (((cell_far (p := ⟨gb397, _, none⟩) NB386_397.out _).trans (((cell_far (p := ⟨gb397, _, none⟩) NB386_397.out _).trans (((cell_far (p := ⟨gb397, _, none⟩) NB386_397.out _).trans (hHeld.2.1)))))))), ((cell_far (p := ⟨gb397, _, none⟩) NB386_397.out _).trans (((cell_far (p := ⟨gb397, _, none⟩) NB386_397.out _).trans (((cell_far (p := ⟨gb397, _, none⟩) NB386_397.out _).trans (((cell_far (p := ⟨gb397, _, none⟩) NB386_397.out _).trans (hHeld.2.2.1)))))))), ((cell_far (p := ⟨gb397, _, none⟩) NB386_397.out _).trans (((cell_far (p := ⟨gb397, _, none⟩) NB386_397.out _).trans (((cell_far (p := ⟨gb397, _, none⟩) NB386_397.out _).trans (((cell_far (p := ⟨gb397, _, none⟩) NB386_397.out _).trans (hHeld.2.2.2.1)))))))), ((cell_far (p := ⟨gb397, _, none⟩) (by first | exact Kd.own_blk (Kd.R_ne HO_6.out BK397.out (by decide)) | (rw [add_block]; exact Kd.own_blk (Kd.R_ne HO_6.out BK397.out (by decide))) | (show (Addr.add _ _).block ≠ _; rw [add_block]; exact Kd.own_blk (Kd.R_ne HO_6.out BK397.out (by decide))) | (dsimp only; exact Kd.own_blk (Kd.R_ne HO_6.out BK397.out (by decide)))) _).trans (((cell_far (p := ⟨gb397, _, none⟩) (by first | exact Kd.own_blk (Kd.R_ne HO_6.out BK397.out (by decide)) | (rw [add_block]; exact Kd.own_blk (Kd.R_ne HO_6.out BK397.out (by decide))) | (show (Addr.add _ _).block ≠ _; rw [add_block]; exact Kd.own_blk (Kd.R_ne HO_6.out BK397.out (by decide))) | (dsimp only; exact Kd.own_blk (Kd.R_ne HO_6.out BK397.out (by decide)))) _).trans (((cell_far (p := ⟨gb397, _, none⟩) (by first | exact Kd.own_blk (Kd.R_ne HO_6.out BK397.out (by decide)) | (rw [add_block]; exact Kd.own_blk (Kd.R_ne HO_6.out BK397.out (by decide))) | (show (Addr.add _ _).block ≠ _; rw [add_block]; exact Kd.own_blk (Kd.R_ne HO_6.out BK397.out (by decide))) | (dsimp only; exact Kd.own_blk (Kd.R_ne HO_6.out BK397.out (by decide)))) _).trans (((cell_far (p := ⟨gb397, _, none⟩) (by first | exact Kd.own_blk (Kd.R_ne HO_6.out BK397.out (by decide)) | (rw [add_block]; exact Kd.own_blk (Kd.R_ne HO_6.out BK397.out (by decide))) | (show (Addr.add _ _).block ≠ _; rw [add_block]; exact Kd.own_blk (Kd.R_ne HO_6.out BK397.out (by decide))) | (dsimp only; exact Kd.own_blk (Kd.R_ne HO_6.out BK397.out (by decide)))) _).trans (hHeld.2.2.2.2))))))))⟩ (fun hHeld => ?_)
           clear hK K
           refine pure_ (i := 11) (N := some 10) (v := ?_) (a' := ?_) (bz 12 4095) rfl rfl (any_of HT_.out (by kernel_rfl)) (fun _ _ _ h => h) (Or.inl ⟨by rfl, ?_⟩) ?_ ?_
           rotate_left
           ·intro w'
            go_simp
            with_reducible rfl
           rotate_left
           ·simp only [Act.put, List.setIfInBounds_toArray, List.set_cons_zero, List.set_cons_succ, i64_w, i32_w]
            rfl
           refine done_ (done_of HT_.out (by kernel_rfl)) ?_
           have hnb42 := NB397_372.out
           have hnc42 := NB372_397.out
           have hnb43 := NB397_381.out
           have hnc43 := NB381_397.out
           have hnb44 := NB397_386.out
           have hnc44 := NB386_397.out
           have hnb45 := NB397_375.out
           have hnc45 := NB375_397.out
           have hcz46_0 : w37.cell? ⟨gb397, 0, none⟩ = some (.bool false) := (blk_cell BK397.out 0).trans rfl
           have hcz46_1 : w37.cell? ⟨gb397, 1, none⟩ = some (.bool false) := (blk_cell BK397.out 1).trans rfl
           have hcz46_2 : w37.cell? ⟨gb397, 2, none⟩ = some (.bool false) := (blk_cell BK397.out 2).trans rfl
           have hcz46_3 : w37.cell? ⟨gb397, 3, none⟩ = some (.bool false) := (blk_cell BK397.out 3).trans rfl
           have hfz46_0 := blk_frozen BK397.out 0
           have hfz46_1 := blk_frozen BK397.out 1
           have hfz46_2 := blk_frozen BK397.out 2
           have hfz46_3 := blk_frozen BK397.out 3
           have hnb47 := NB386_372.out
           have hnc47 := NB372_386.out
           have hnb48 := NB386_381.out
           have hnc48 := NB381_386.out
           have hnb49 := NB386_375.out
           have hnc49 := NB375_386.out
           have hcz50_0 : w37.cell? ⟨gb386, 0, none⟩ = some (.bool x387000_1) := (blk_cell BK386.out 0).trans rfl
           have hcz50_1 : w37.cell? ⟨gb386, 1, none⟩ = some (.bool x387001_1) := (blk_cell BK386.out 1).trans rfl
           have hcz50_2 : w37.cell? ⟨gb386, 2, none⟩ = some (.bool x387002_1) := (blk_cell BK386.out 2).trans rfl
           have hcz50_3 : w37.cell? ⟨gb386, 3, none⟩ = some (.bool x387003_1) := (blk_cell BK386.out 3).trans rfl
           have hfz50_0 := blk_frozen BK386.out 0
           have hfz50_1 := blk_frozen BK386.out 1
           have hfz50_2 := blk_frozen BK386.out 2
           have hfz50_3 := blk_frozen BK386.out 3
           try go_wp2
           go_roundg k3
           case measure => have := HK1.out; have := HJ18.out; have := HK3.out; omega
           case rel => exact ⟨(x6_3), (wrap64 (x8_1 + 1)), (x376001_18), (t392), (t393), (t394), (t395), (by first | rfl | (simp; done) | (simp [*]; done)), H', ⟨by have := HK1.out; have := HJ18.out; have := HK3.out; omega⟩, ⟨by (with_reducible repeat (first | apply Kd.R_alloc | apply Kd.R_drewN | apply Kd.R_drew)); exact Kd.R_mono (Kd.R_far (p := ⟨gb386, 3, none⟩) (Kd.R_far (p := ⟨gb386, 2, none⟩) (Kd.R_far (p := ⟨gb386, 1, none⟩) (Kd.R_far (p := ⟨gb386, 0, none⟩) (Kd.R_far (p := ⟨gb397, 3, none⟩) (Kd.R_far (p := ⟨gb397, 2, none⟩) (Kd.R_far (p := ⟨gb397, 1, none⟩) (Kd.R_far (p := ⟨gb397, 0, none⟩) (Kd.R_types (Kd.R_types HO_6.out BK397.out (by decide)) BK386.out (by decide)) (fun _ hk => by first | exact hk.1.2 | grind) (.bool t392)) (fun _ hk => by first | exact hk.1.2 | grind) (.bool t393)) (fun _ hk => by first | exact hk.1.2 | grind) (.bool t394)) (fun _ hk => by first | exact hk.1.2 | grind) (.bool t395)) (fun _ hk => by first | exact hk.2 | grind) (.bool t392)) (fun _ hk => by first | exact hk.2 | grind) (.bool t393)) (fun _ hk => by first | exact hk.2 | grind) (.bool t394)) (fun _ hk => by first | exact hk.2 | grind) (.bool t395)) (fun _ hk => trivial)⟩, ⟨by (with_reducible repeat (first | refine blk_drewN ?_ _ | refine blk_drew ?_ | refine blk_alloc ?_ _)); refine blk_far ?_ NB372_386.out _; (with_reducible repeat (first | refine blk_drewN ?_ _ | refine blk_drew ?_ | refine blk_alloc ?_ _)); refine blk_far ?_ NB372_386.out _; (with_reducible repeat (first | refine blk_drewN ?_ _ | refine blk_drew ?_ | refine blk_alloc ?_ _)); refine blk_far ?_ NB372_386.out _; (with_reducible repeat (first | refine blk_drewN ?_ _ | refine blk_drew ?_ | refine blk_alloc ?_ _)); refine blk_far ?_ NB372_386.out _; (with_reducible repeat (first | refine blk_drewN ?_ _ | refine blk_drew ?_ | refine blk_alloc ?_ _)); refine blk_far ?_ NB372_397.out _; (with_reducible repeat (first | refine blk_drewN ?_ _ | refine blk_drew ?_ | refine blk_alloc ?_ _)); refine blk_far ?_ NB372_397.out _; (with_reducible repeat (first | refine blk_drewN ?_ _ | refine blk_drew ?_ | refine blk_alloc ?_ _)); refine blk_far ?_ NB372_397.out _; (with_reducible repeat (first | refine blk_drewN ?_ _ | refine blk_drew ?_ | refine blk_alloc ?_ _)); refine blk_far ?_ NB372_397.out _; (with_reducible repeat (first | refine blk_drewN ?_ _ | refine blk_drew ?_ | refine blk_alloc ?_ _)); exact BK372.out⟩, ⟨by (with_reducible repeat (first | refine blk_drewN ?_ _ | refine blk_drew ?_ | refine blk_alloc ?_ _)); refine blk_far ?_ NB381_386.out _; (with_reducible repeat (first | refine blk_drewN ?_ _ | refine blk_drew ?_ | refine blk_alloc ?_ _)); refine blk_far ?_ NB381_386.out _; (with_reducible repeat (first | refine blk_drewN ?_ _ | refine blk_drew ?_ | refine blk_alloc ?_ _)); refine blk_far ?_ NB381_386.out _; (with_reducible repeat (first | refine blk_drewN ?_ _ | refine blk_drew ?_ | refine blk_alloc ?_ _)); refine blk_far ?_ NB381_386.out _; (with_reducible repeat (first | refine blk_drewN ?_ _ | refine blk_drew ?_ | refine blk_alloc ?_ _)); refine blk_far ?_ NB381_397.out _; (with_reducible repeat (first | refine blk_drewN ?_ _ | refine blk_drew ?_ | refine blk_alloc ?_ _)); refine blk_far ?_ NB381_397.out _; (with_reducible repeat (first | refine blk_drewN ?_ _ | refine blk_drew ?_ | refine blk_alloc ?_ _)); refine blk_far ?_ NB381_397.out _; (with_reducible repeat (first | refine blk_drewN ?_ _ | refine blk_drew ?_ | refine blk_alloc ?_ _)); refine blk_far ?_ NB381_397.out _; (with_reducible repeat (first | refine blk_drewN ?_ _ | refine blk_drew ?_ | refine blk_alloc ?_ _)); exact BK381.out⟩, ⟨by (with_reducible repeat (first | refine blk_drewN ?_ _ | refine blk_drew ?_ | refine blk_alloc ?_ _)); refine blk_put (cs := #[.bool t392, .bool t393, .bool t394, .bool x387003_1]) ?_ 3 _ rfl; (with_reducible repeat (first | refine blk_drewN ?_ _ | refine blk_drew ?_ | refine blk_alloc ?_ _)); refine blk_put (cs := #[.bool t392, .bool t393, .bool x387002_1, .bool x387003_1]) ?_ 2 _ rfl; (with_reducible repeat (first | refine blk_drewN ?_ _ | refine blk_drew ?_ | refine blk_alloc ?_ _)); refine blk_put (cs := #[.bool t392, .bool x387001_1, .bool x387002_1, .bool x387003_1]) ?_ 1 _ rfl; (with_reducible repeat (first | refine blk_drewN ?_ _ | refine blk_drew ?_ | refine blk_alloc ?_ _)); refine blk_put (cs := #[.bool x387000_1, .bool x387001_1, .bool x387002_1, .bool x387003_1]) ?_ 0 _ rfl; (with_reducible repeat (first | refine blk_drewN ?_ _ | refine blk_drew ?_ | refine blk_alloc ?_ _)); refine blk_far ?_ NB386_397.out _; (with_reducible repeat (first | refine blk_drewN ?_ _ | refine blk_drew ?_ | refine blk_alloc ?_ _)); refine blk_far ?_ NB386_397.out _; (with_reducible repeat (first | refine blk_drewN ?_ _ | refine blk_drew ?_ | refine blk_alloc ?_ _)); refine blk_far ?_ NB386_397.out _; (with_reducible repeat (first | refine blk_drewN ?_ _ | refine blk_drew ?_ | refine blk_alloc ?_ _)); refine blk_far ?_ NB386_397.out _; (with_reducible repeat (first | refine blk_drewN ?_ _ | refine blk_drew ?_ | refine blk_alloc ?_ _)); exact BK386.out⟩, ⟨by repeat (first | (with_reducible first | exact HI375.out | apply IsS133.alloc | apply IsS133.drewN | apply IsS133.drew | apply IsS133.set_1 | refine IsS133.far ?_ NB375_372.out _ | refine IsS133.far ?_ NB375_381.out _ | refine IsS133.far ?_ NB375_386.out _ | refine IsS133.far ?_ NB375_397.out _) | exact HI375.out)⟩, ⟨by repeat (first | (with_reducible first | exact HB.out | apply below_alloc | apply pw_below_drewN | apply below_drew1 | refine below_set ?_ (IsS133.ge HI375.out) | refine below_set ?_ GE372.out | refine below_set ?_ GE381.out | refine below_set ?_ GE386.out | refine below_set ?_ GE397.out) | exact HB.out)⟩⟩
          ·replace c29 := Bool.eq_false_iff.mpr c29
           subst c29
           have H1 : (spec_DrawBayRun.l1 k3 (x6_3.set (x8_1 : Int).toNat (Int.tmod (wrap64 ((rd x6_3 x8_1) + 1)) 8)) x8_1 t373 x376001_18 t376 t377 t378 t379 x387000_1 x387001_1 x387002_1 x387003_1) = some (r1, r2, r3, r4, r5) := by rw [if_neg (show ¬ (false = true) by decide)] at H; exact H
           clear H
           have H := H1
           clear H1
           obtain ⟨y399, hy399⟩ : ∃ y_ : List Int, y_ = (x6_3.set (x8_1 : Int).toNat (Int.tmod (wrap64 ((rd x6_3 x8_1) + 1)) 8)) := ⟨_, rfl⟩
           replace H : (spec_DrawBayRun.l1 k3 y399 x8_1 t373 x376001_18 t376 t377 t378 t379 x387000_1 x387001_1 x387002_1 x387003_1) = some (r1, r2, r3, r4, r5) := by first | (rw [hy399]; with_reducible exact H) | (have H2_ := (Option.bind_some _ _).symm.trans H; rw [hy399]; with_reducible exact H2_) | (have H2_ := (Option.bind_some _ _).symm.trans H; with_reducible exact H2_) | with_reducible exact H | (rw [hy399]; exact H) | exact H
           have Ny399 := Aside0.mk hy399
           clear hy399
           have H' := Aside0.mk H
           clear H
           try go_wp2
           have n0_ := Aside0.mk (Kd.R_drew HO_6.out)
           have n1_ := Aside0.mk (blk_drew BK372.out)
           have n2_ := Aside0.mk (blk_drew BK381.out)
           have n3_ := Aside0.mk (blk_drew BK386.out)
           have n4_ := Aside0.mk (IsS133.drew HI375.out)
           have n5_ := Aside0.mk (below_drew1 HB.out)
           clear HO_6
           clear BK372
           clear BK381
           clear BK386
           clear HI375
           clear HB
           have HO_6 := n0_
           have BK372 := n1_
           have BK381 := n2_
           have BK386 := n3_
           have HI375 := n4_
           have HB := n5_
           clear n0_ n1_ n2_ n3_ n4_ n5_
           obtain ⟨Ao53, co53, eo53⟩ := Kd.R_slice HO_6.out
           (first | subst eo53 | (injection eo53 with f1_ f2_ f3_; have f4_ := f1_.symm; have f5_ := f3_.symm; clear f1_ f2_ f3_; subst f4_; subst f5_))
           have p389 : 0 ≤ (x8_1 : Int) := of_decide_eq_true (by first | (with_reducible assumption) | assumption)
           have q389 : x8_1 < (x6_3.length : Int) := of_decide_eq_true (by first | (with_reducible assumption) | assumption)
           obtain ⟨ad389, e389, hx389_0⟩ := Kd.at_int (Kd.R_reads' HO_6.out).2.2 x8_1 p389 q389
           cases e389
           replace p389 := eq_true p389
           replace q389 := eq_true q389
           refine start_ (n := 7) (S := fun w' => w'.cell? ⟨gb386, 0, none⟩ = some (.bool x387000_1) ∧ w'.cell? ⟨gb386, 1, none⟩ = some (.bool x387001_1) ∧ w'.cell? ⟨gb386, 2, none⟩ = some (.bool x387002_1) ∧ w'.cell? ⟨gb386, 3, none⟩ = some (.bool x387003_1) ∧ w'.cell? (ad389.add (x8_1).toNat) = some (.int .i64 (rd x6_3 x8_1))) (ds := []) (bz 7 0) (by kernel_rfl) rfl rfl ⟨(blk_cell BK386.out 0).trans rfl, (blk_cell BK386.out 1).trans rfl, (blk_cell BK386.out 2).trans rfl, (blk_cell BK386.out 3).trans rfl, hx389_0⟩ (fun hHeld => ?_)
           generalize wr.drew = w52 at HO_6 BK372 BK381 BK386 HI375 HB hx389_0 hHeld ⊢
           refine pure_ (i := 1) (N := some 30) (v := ?_) (a' := ?_) (bz 7 2) rfl rfl (by kernel_rfl) (fun _ _ _ h => h) (Or.inl ⟨by rfl, ?_⟩) ?_ ?_
           rotate_left
           ·intro w'
            go_simp
            with_reducible rfl
           rotate_left
           ·simp only [Act.put, List.setIfInBounds_toArray, List.set_cons_zero, List.set_cons_succ, i64_w, i32_w]
            rfl
           refine pure_ (i := 2) (N := some 31) (v := ?_) (a' := ?_) (bz 7 6) rfl rfl (by kernel_rfl) (fun _ _ _ h => h) (Or.inl ⟨by rfl, ?_⟩) ?_ ?_
           rotate_left
           ·intro w'
            go_simp
            with_reducible rfl
           rotate_left
           ·simp only [Act.put, List.setIfInBounds_toArray, List.set_cons_zero, List.set_cons_succ, i64_w, i32_w]
            rfl
           refine pure_ (i := 3) (N := some 32) (v := ?_) (a' := ?_) (bz 7 14) rfl rfl (by kernel_rfl) (fun _ _ _ h => h) (Or.inl ⟨by rfl, ?_⟩) ?_ ?_
           rotate_left
           ·intro w'
            go_simp
            with_reducible rfl
           rotate_left
           ·simp only [Act.put, List.setIfInBounds_toArray, List.set_cons_zero, List.set_cons_succ, i64_w, i32_w]
            rfl
           refine take_ (i := 0) (N := some 29) (v := ?_) (a' := ?_) (bz 7 15) rfl rfl (by kernel_rfl) (fun _ _ _ h => h) (Or.inl ⟨by rfl, ?_⟩) hHeld ?_ ?_
           rotate_left
           ·rintro w' ⟨s0, s1, s2, s3, s4⟩
            go_simp
            with_reducible rfl
           rotate_left
           ·simp only [Act.put, List.setIfInBounds_toArray, List.set_cons_zero, List.set_cons_succ, i64_w, i32_w]
            rfl
           refine take_ (i := 4) (N := some 33) (v := ?_) (a' := ?_) (bz 7 31) rfl rfl (by kernel_rfl) (fun _ _ _ h => h) (Or.inl ⟨by rfl, ?_⟩) hHeld ?_ ?_
           rotate_left
           ·rintro w' ⟨s0, s1, s2, s3, s4⟩
            go_simp
            with_reducible rfl
           rotate_left
           ·simp only [Act.put, List.setIfInBounds_toArray, List.set_cons_zero, List.set_cons_succ, i64_w, i32_w]
            rfl
           refine one_ (i := 5) (N := some 34) (bz 7 63) rfl rfl (by kernel_rfl) (by decide) (fun K hK => ?_)
           refine goes_ Tryd.func56 (by kernel_rfl) rfl #[.agg #[.bool x387000_1, .bool x387001_1, .bool x387002_1, .bool x387003_1], .int .i64 (rd x6_3 x8_1)] (by rfl) rfl rfl (by (try simp only [List.map_toArray, List.map_cons, List.map_nil]); first | done | rfl | (simp only [List.length_drop, List.length_take]; rfl)) ?_
           with_reducible refine (spec_BayMay.calls x387000_1 x387001_1 x387002_1 x387003_1 (rd x6_3 x8_1) false _ A28.out).mono ?_
           rintro e w54 ⟨rfl, hb⟩
           have HS4_ := (hb.cell (World.block_lt_of_cell? _ _ (hHeld.2.2.2.2))).trans (hHeld.2.2.2.2)
           refine ⟨_, rfl, ?_⟩
           have n0_ := rB HO_6 hb
           have n1_ := bkB BK372 hb
           have n2_ := bkB BK381 hb
           have n3_ := bkB BK386 hb
           have n4_ := Aside0.mk (IsS133.below (by repeat (first | (with_reducible first | exact HI375.out | apply IsS133.alloc | apply IsS133.drewN | apply IsS133.drew | apply IsS133.set_1 | refine IsS133.far ?_ NB375_372.out _ | refine IsS133.far ?_ NB375_381.out _ | refine IsS133.far ?_ NB375_386.out _) | exact HI375.out)) hb)
           have n5_ := Aside0.mk (below_step (by repeat (first | (with_reducible first | exact HB.out | apply below_alloc | apply pw_below_drewN | apply below_drew1 | refine below_set ?_ (IsS133.ge HI375.out) | refine below_set ?_ GE372.out | refine below_set ?_ GE381.out | refine below_set ?_ GE386.out) | exact HB.out)) hb)
           clear HO_6
           clear BK372
           clear BK381
           clear BK386
           clear HI375
           clear HB
           have HO_6 := n0_
           have BK372 := n1_
           have BK381 := n2_
           have BK386 := n3_
           have HI375 := n4_
           have HB := n5_
           clear n0_ n1_ n2_ n3_ n4_ n5_
           (try clear hb)
           (try clear hb2)
           (try clear hk)
           (try clear hi)
           refine hK.out _ _ ⟨(blk_cell BK386.out 0).trans rfl, (blk_cell BK386.out 1).trans rfl, (blk_cell BK386.out 2).trans rfl, (blk_cell BK386.out 3).trans rfl, HS4_⟩ (fun hHeld => ?_)
           clear hK K
           refine norm_ (a' := ?_) ?_ ?_
           rotate_left
           ·show Act.put _ (some 34) _ = _
            simp only [Act.put, List.setIfInBounds_toArray, List.set_cons_zero, List.set_cons_succ, i64_w, i32_w]
            rfl
           refine pure_ (i := 6) (N := some 35) (v := ?_) (a' := ?_) (bz 7 127) rfl rfl (by kernel_rfl) (fun _ _ _ h => h) (Or.inl ⟨by rfl, ?_⟩) ?_ ?_
           rotate_left
           ·intro w'
            go_simp
            with_reducible rfl
           rotate_left
           ·simp only [Act.put, List.setIfInBounds_toArray, List.set_cons_zero, List.set_cons_succ, i64_w, i32_w]
            rfl
           refine done_ (by kernel_rfl) ?_
           have p398 : 0 ≤ (x8_1 : Int) := of_decide_eq_true (by first | (with_reducible assumption) | assumption)
           have q398 : x8_1 < (x6_3.length : Int) := of_decide_eq_true (by first | (with_reducible assumption) | assumption)
           obtain ⟨ad398, e398, hx398_0⟩ := Kd.at_int (Kd.R_reads' HO_6.out).2.2 x8_1 p398 q398
           obtain rfl : ad389 = ad398 := (by injection e398)
           replace p398 := eq_true p398
           replace q398 := eq_true q398
           have p51 : 0 ≤ (x8_1 : Int) := of_decide_eq_true (by first | (with_reducible assumption) | assumption)
           have q51 : (x8_1 : Int) < ((x6_3.length : Int) : Int) := of_decide_eq_true (by first | (with_reducible assumption) | assumption)
           obtain ⟨go51, co51, eo51, gb51, gl51, cl51, HG51⟩ := Kd.R_form HO_6.out (by omega)
           (first | cases eo51 | (injection eo51 with ea_ en_ ec_; (first | subst ea_ | (injection ea_ with ea_; subst ea_)); subst ec_; clear en_))
           have GB51 := Aside0.mk gb51
           have GG51 := Aside0.mk HG51
           clear gb51 gl51 HG51
           (first | simp only [add_plain] at hx389_0 | skip)
           (first | simp only [add_plain] at hx391_0 | skip)
           (first | simp only [add_plain] at hx398_0 | skip)
           obtain ⟨hx51_0, hf51_0⟩ := Kd.R_celln 0 HO_6.out (x8_1 : Int) p51 q51
           replace p51 := eq_true p51
           replace q51 := eq_true q51
           obtain ⟨hy55_, hz55_⟩ := Kd.R_celln 0 HO_6.out (x8_1 : Int) (of_decide_eq_true (by first | (with_reducible assumption) | assumption)) (of_decide_eq_true (by first | (with_reducible assumption) | assumption))
           have HP55 := Kd.R_putg HO_6.out (x8_1 : Int) (Int.tmod (wrap64 ((rd x6_3 x8_1) + 1)) 8)
           try go_wp2_with (first | ((with_reducible refine gate_store (t := 3) (p := 44) rfl ?_); refine store_event (t := 3) (p := 44) (v := ?vo_w56) (w1 := (w54.setCell ⟨go51, (x8_1 : Int).toNat, none⟩ (.int .i64 (Int.tmod (wrap64 ((rd x6_3 x8_1) + 1)) 8)))) ?hg ?ho ?hn ?hr ?_; (case ho => rfl); (case hg => rfl); (case hn => rfl); (case hr => first | (go_simp; done) | (go_simp; rfl)); intro w56 hw; have hg : w54.grownBy w56 (some go51) := (by rw [hw]; exact HP55.2); have hp_ : Kd.R (Kd.int .i64) 3 w56 w.heap.size (fun _ => True) (.slice (some ⟨go51, 0, none⟩) x6_3.length co53) y399 := (by rw [hw, Ny399.out]; exact HP55.1); clear HP55; have n0_ := Aside0.mk (hp_); have n1_ := Aside0.mk (blk_grown (g := gb372) (o := .cells #[.bool false, .bool false, .bool false, .bool false] 59 (0, 0)) (bk BK372) hg (Kd.R_ne HO_6.out BK372.out (by decide))); have n2_ := Aside0.mk (blk_grown (g := gb381) (o := .cells #[.bool t376, .bool t377, .bool t378, .bool t379] 59 (0, 0)) (bk BK381) hg (Kd.R_ne HO_6.out BK381.out (by decide))); have n3_ := Aside0.mk (blk_grown (g := gb386) (o := .cells #[.bool x387000_1, .bool x387001_1, .bool x387002_1, .bool x387003_1] 59 (0, 0)) (bk BK386) hg (Kd.R_ne HO_6.out BK386.out (by decide))); have n4_ := Aside0.mk (IsS133.grown (by repeat (first | (with_reducible first | exact HI375.out | apply IsS133.alloc | apply IsS133.drewN | apply IsS133.drew | apply IsS133.set_1 | refine IsS133.far ?_ NB375_372.out _ | refine IsS133.far ?_ NB375_381.out _ | refine IsS133.far ?_ NB375_386.out _) | exact HI375.out)) hg (IsS133.own_ne HI375.out HO_6.out (by decide))); have n5_ := Aside0.mk ((by rw [hw]; exact below_set (HB.out) GB51.out : Below w.heap.size w w56)); clear HO_6 BK372 BK381 BK386 HI375 HB; have HO_6 := n0_; have BK372 := n1_; have BK381 := n2_; have BK386 := n3_; have HI375 := n4_; have HB := n5_; clear n0_ n1_ n2_ n3_ n4_ n5_; clear hg hw hp_))
           go_roundg k3
           case measure => have := HK1.out; have := HJ18.out; have := HK3.out; omega
           case rel => exact ⟨(y399), H', ⟨by have := HK1.out; have := HJ18.out; have := HK3.out; omega⟩, ⟨rk HO_6⟩, ⟨bk BK372⟩, ⟨bk BK381⟩, ⟨bk BK386⟩, ⟨by repeat (first | (with_reducible first | exact HI375.out | apply IsS133.alloc | apply IsS133.drewN | apply IsS133.drew | apply IsS133.set_1 | refine IsS133.far ?_ NB375_372.out _ | refine IsS133.far ?_ NB375_381.out _ | refine IsS133.far ?_ NB375_386.out _) | exact HI375.out)⟩, ⟨by repeat (first | (with_reducible first | exact HB.out | apply below_alloc | apply pw_below_drewN | apply below_drew1 | refine below_set ?_ (IsS133.ge HI375.out) | refine below_set ?_ GE372.out | refine below_set ?_ GE381.out | refine below_set ?_ GE386.out) | exact HB.out)⟩⟩
         ·rw [if_neg c27] at H
          exact absurd H (by simp)
        ·rw [if_neg c26] at H
         exact absurd H (by simp)
     ·replace c25 := Bool.eq_false_iff.mpr c25
      subst c25
      have H1 : (some (t376, t377, t378, t379, x6_1)) = some (r1, r2, r3, r4, r5) := by rw [if_neg (show ¬ (false = true) by decide)] at H; exact H
      clear H
      have H := H1
      clear H1
      simp only [Option.some.injEq, Prod.mk.injEq] at H
      obtain ⟨rfl, rfl, rfl, rfl, rfl⟩ := H
      have hnb57 := NB381_372.out
      have hnc57 := NB372_381.out
      have hnb58 := NB381_386.out
      have hnc58 := NB386_381.out
      have hnb59 := NB381_375.out
      have hnc59 := NB375_381.out
      have hcz60_0 : wc.cell? ⟨gb381, 0, none⟩ = some (.bool t376) := (blk_cell BK381.out 0).trans rfl
      have hcz60_1 : wc.cell? ⟨gb381, 1, none⟩ = some (.bool t377) := (blk_cell BK381.out 1).trans rfl
      have hcz60_2 : wc.cell? ⟨gb381, 2, none⟩ = some (.bool t378) := (blk_cell BK381.out 2).trans rfl
      have hcz60_3 : wc.cell? ⟨gb381, 3, none⟩ = some (.bool t379) := (blk_cell BK381.out 3).trans rfl
      have hfz60_0 := blk_frozen BK381.out 0
      have hfz60_1 := blk_frozen BK381.out 1
      have hfz60_2 := blk_frozen BK381.out 2
      have hfz60_3 := blk_frozen BK381.out 3
      have hnb61 := NB372_386.out
      have hnc61 := NB386_372.out
      have hnb62 := NB372_375.out
      have hnc62 := NB375_372.out
      have hcz63_0 : wc.cell? ⟨gb372, 0, none⟩ = some (.bool false) := (blk_cell BK372.out 0).trans rfl
      have hcz63_1 : wc.cell? ⟨gb372, 1, none⟩ = some (.bool false) := (blk_cell BK372.out 1).trans rfl
      have hcz63_2 : wc.cell? ⟨gb372, 2, none⟩ = some (.bool false) := (blk_cell BK372.out 2).trans rfl
      have hcz63_3 : wc.cell? ⟨gb372, 3, none⟩ = some (.bool false) := (blk_cell BK372.out 3).trans rfl
      have hfz63_0 := blk_frozen BK372.out 0
      have hfz63_1 := blk_frozen BK372.out 1
      have hfz63_2 := blk_frozen BK372.out 2
      have hfz63_3 := blk_frozen BK372.out 3
      go_wp2
      refine bodyPost_ret (results_ct rfl _ _ gb372 59 #[.bool t376, .bool t377, .bool t378, .bool t379] (0, 0) _ rfl (by (with_reducible repeat (first | refine blk_drewN ?_ _ | refine blk_drew ?_ | refine blk_alloc ?_ _)); refine blk_put (cs := #[.bool t376, .bool t377, .bool t378, .bool false]) ?_ 3 _ rfl; (with_reducible repeat (first | refine blk_drewN ?_ _ | refine blk_drew ?_ | refine blk_alloc ?_ _)); refine blk_put (cs := #[.bool t376, .bool t377, .bool false, .bool false]) ?_ 2 _ rfl; (with_reducible repeat (first | refine blk_drewN ?_ _ | refine blk_drew ?_ | refine blk_alloc ?_ _)); refine blk_put (cs := #[.bool t376, .bool false, .bool false, .bool false]) ?_ 1 _ rfl; (with_reducible repeat (first | refine blk_drewN ?_ _ | refine blk_drew ?_ | refine blk_alloc ?_ _)); refine blk_put (cs := #[.bool false, .bool false, .bool false, .bool false]) ?_ 0 _ rfl; (with_reducible repeat (first | refine blk_drewN ?_ _ | refine blk_drew ?_ | refine blk_alloc ?_ _)); exact BK372.out) Tryd.underlying59 rfl (by kernel_rfl)) rfl ?_
      exact ⟨_, by first | rfl | (simp [errW_none, errW_some] <;> rfl) | (simp [*, errW_none, errW_some] <;> rfl), by (with_reducible repeat (first | apply Kd.R_alloc | apply Kd.R_drewN | apply Kd.R_drew)); exact Kd.R_mono (Kd.R_far (p := ⟨gb372, 3, none⟩) (Kd.R_far (p := ⟨gb372, 2, none⟩) (Kd.R_far (p := ⟨gb372, 1, none⟩) (Kd.R_far (p := ⟨gb372, 0, none⟩) (Kd.R_types HO_6.out BK372.out (by decide)) (fun _ hk => by first | exact hk.2 | grind) (.bool t376)) (fun _ hk => by first | exact hk.2 | grind) (.bool t377)) (fun _ hk => by first | exact hk.2 | grind) (.bool t378)) (fun _ hk => by first | exact hk.2 | grind) (.bool t379)) (fun _ hk => trivial), by repeat (first | (with_reducible first | exact HB.out | apply below_alloc | apply pw_below_drewN | apply below_drew1 | refine below_set ?_ (IsS133.ge HI375.out) | refine below_set ?_ GE372.out | refine below_set ?_ GE381.out | refine below_set ?_ GE386.out) | exact HB.out)⟩

end Go.Proofs.YtoajkfhjgnonjaaDoor.G
