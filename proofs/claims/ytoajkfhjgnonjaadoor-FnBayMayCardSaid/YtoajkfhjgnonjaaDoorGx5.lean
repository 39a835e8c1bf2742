-- Printed by wip/gen.py of this session's repo, over the kit's print.py. Not trusted: Lean checks it.
import Derived.Test.YtoajkfhjgnonjaaDoorGx0
import Derived.Test.YtoajkfhjgnonjaaDoorSq
import Derived.Test.YtoajkfhjgnonjaaDoorGx1
import Derived.Test.YtoajkfhjgnonjaaDoorGx2
namespace Go.Proofs.YtoajkfhjgnonjaaDoor.G
open Go.RowKit Go.Proofs.YtoajkfhjgnonjaaDoorW.PrintWords Go.Proofs.YtoajkfhjgnonjaaDoorW.PrintLast Go.Proofs.YtoajkfhjgnonjaaDoorW.PrintMore Go.Proofs.YtoajkfhjgnonjaaDoor.Sq
attribute [local go_sem] max2_int min2_int max_two min_two max_three min_three max_four min_four   -- for this text's walks alone
set_option linter.unusedVariables false
set_option linter.unusedSimpArgs false

/-! ### spec_l20Bars: function 103 -/
def spec_l20Bars.l0 : Nat → Int → Int → List Int → Int → List Int → Bool → Option (List Int × Bool × Int)
 | 0, _, _, _, _, _, _ => none
 | k + 1, x1, x6, x1000, x1001, x260000, x260001 => if x6 > 0 then ((spec_l20Rd_pick.f k x1000 x1001 2).bind fun bt262 => (if x260001 = true then ((spec_l20Rd_pick.f k x1000 bt262.2 4).bind fun bt264 => (if bt264.1 = 0 then (if x260000.length < 17592186044416 then (spec_l20Bars.l0 k x1 (wrap64 (x6 - 1)) x1000 bt264.2 (x260000 ++ [3]) x260001) else (none)) else (if x260000.length < 17592186044416 then (spec_l20Bars.l0 k x1 (wrap64 (x6 - 1)) x1000 bt264.2 (x260000 ++ [wrap64 (1 + bt262.1)]) x260001) else (none)))) else (if x260000.length < 17592186044416 then (spec_l20Bars.l0 k x1 (wrap64 (x6 - 1)) x1000 bt262.2 (x260000 ++ [wrap64 (1 + bt262.1)]) x260001) else (none)))) else ((spec_l20Rd_odd.f k x1000 x1001 x1).bind fun bt275 => (if bt275.1 = true then ((spec_l20Rd_pick.f k x1000 bt275.2 3).bind fun bt277 => (if bt277.1 = 0 then ((some (([0, 4, (-1)] : List Int) : List Int)).bind fun y279 => ((spec_l20Rd_pick.f k x1000 bt277.2 3).bind fun bt282 => (if 0 ≤ bt282.1 then (if bt282.1 < (y279.length : Int) then (if 0 < (x260000.length : Int) then (some ((x260000.set (0 : Int).toNat (rd y279 bt282.1)), x260001, bt282.2)) else (none)) else (none)) else (none)))) else (if bt277.1 = 1 then (if 0 < (x260000.length : Int) then (some ((x260000.set (0 : Int).toNat 3), false, bt277.2)) else (none)) else (if 7 ≤ 35184372088832 then (some ((List.replicate 7 0), x260001, bt277.2)) else (none))))) else (some (x260000, x260001, bt275.2))))
def spec_l20Bars.f (k : Nat) (s0_0 : List Int) (s0_1 : Int) (a1 : Int) : Option (List Int × Bool × Int) := (spec_l20Rd_pick.f k s0_0 s0_1 2).bind fun bt257 => ((spec_l20Rd_pick.f k s0_0 bt257.2 6).bind fun bt260 => (spec_l20Bars.l0 k a1 (wrap64 (1 + bt260.1)) s0_0 bt260.2 ([] : List Int) (bt257.1 == 0)))
theorem spec_l20Bars.mono_l : ∀ k, (∀ y0 y1 y2 y3 y4 y5, LeO (spec_l20Bars.l0 k y0 y1 y2 y3 y4 y5) (spec_l20Bars.l0 (k + 1) y0 y1 y2 y3 y4 y5))
 | 0 => fun _ _ _ _ _ _ r h => by simp [spec_l20Bars.l0] at h
 | k + 1 => by
  have ih0 := spec_l20Bars.mono_l k
  ·intro y0 y1 y2 y3 y4 y5
   unfold spec_l20Bars.l0
   repeat' first
   | (with_reducible exact ih0 _ _ _ _ _ _)
   | (with_reducible exact spec_l20Rd_odd.mono _ _ _ _)
   | (with_reducible exact spec_l20Rd_pick.mono _ _ _ _)
   | (with_reducible exact LeO.refl _)
   | (with_reducible exact LeO.none _)
   | (with_reducible refine LeO.ite ?_ ?_)
   | (with_reducible refine LeO.bind ?_ (fun _ => ?_))
   | exact ih0 _ _ _ _ _ _
   | exact spec_l20Rd_odd.mono _ _ _ _
   | exact spec_l20Rd_pick.mono _ _ _ _
   | exact LeO.none _
   | refine LeO.ite ?_ ?_
   | refine LeO.bind ?_ (fun _ => ?_)
theorem spec_l20Bars.mono : ∀ a0 a1 a2 k, LeO (spec_l20Bars.f k a0 a1 a2) (spec_l20Bars.f (k + 1) a0 a1 a2) := by
 intro a0 a1 a2 k
 have ih0 := spec_l20Bars.mono_l k
 unfold spec_l20Bars.f
 repeat' first
   | (with_reducible exact ih0 _ _ _ _ _ _)
   | (with_reducible exact spec_l20Rd_odd.mono _ _ _ _)
   | (with_reducible exact spec_l20Rd_pick.mono _ _ _ _)
   | (with_reducible exact LeO.refl _)
   | (with_reducible exact LeO.none _)
   | (with_reducible refine LeO.ite ?_ ?_)
   | (with_reducible refine LeO.bind ?_ (fun _ => ?_))
   | exact ih0 _ _ _ _ _ _
   | exact spec_l20Rd_odd.mono _ _ _ _
   | exact spec_l20Rd_pick.mono _ _ _ _
   | exact LeO.none _
   | refine LeO.ite ?_ ?_
   | refine LeO.bind ?_ (fun _ => ?_)
def spec_l20Bars.T13 : Bool × List (List Nat × List Nat) := (true, [([], []), ([0], [0]), ([], []), ([], []), ([3], [3]), ([2, 4], [2, 4]), ([5], [5]), ([1, 0, 1, 2, 3, 4, 5, 6], [1]), ([7, 6, 4, 0, 1, 2, 3, 4, 5, 6], [6, 7])])
def spec_l20Bars.B13 : List Nat := [0, 1, 0, 0, 8, 28, 60, 127, 255]
theorem spec_l20Bars.tab13 : rtab .any (opsOf Tryd.f103 13) = spec_l20Bars.T13 := by kernel_rfl
theorem spec_l20Bars.bits13 : waitsOk spec_l20Bars.T13.2 spec_l20Bars.B13 = true := by kernel_rfl
set_option maxHeartbeats 8000000 in
set_option maxRecDepth 100000 in
theorem spec_l20Bars.calls (k : Nat) (g : Nat) (s0_0 : List Int) (s0_1 : Int) (a1 : Int) (r1 : List Int) (r2 : Bool) (r3 : Int) (w0 w : World) (hI : IsS133 w0 w g s0_0 s0_1) (hB : Below w0.heap.size w0 w) (h : spec_l20Bars.f k s0_0 s0_1 a1 = some (r1, r2, r3)) :
  Calls Tryd.prog 103 #[.pointer (some ⟨g, 0, none⟩), .int .i64 a1] w fun e w' => ∃ v0_ : Value, e = .returned (.agg #[v0_, .bool r2]) ∧ Kd.R (Kd.int .i64) 3 w' w.heap.size (fun _ => True) v0_ r1 ∧ IsS133 w0 w' g s0_0 r3 ∧ Below w0.heap.size w0 w' ∧ KeepBut w w' g none := by
 have hu72 := Tryd.underlying72
 have HI0 := Aside0.mk hI
 have HK := Aside0.mk (KeepBut.refl w g none)
 have HL := Aside0.mk hB.size
 clear hI
 have HW0 := Aside0.mk hB.size
 have HB := Aside0.mk hB
 clear hB
 have H : ((spec_l20Rd_pick.f k s0_0 s0_1 2).bind fun bt257 => ((spec_l20Rd_pick.f k s0_0 bt257.2 6).bind fun bt260 => (spec_l20Bars.l0 k a1 (wrap64 (1 + bt260.1)) s0_0 bt260.2 ([] : List Int) (bt257.1 == 0)))) = some (r1, r2, r3) := h
 clear h
 replace H := Option.bind_eq_some_iff.mp H
 obtain ⟨⟨t257, t258⟩, A30, H⟩ := H
 replace H : ((spec_l20Rd_pick.f k s0_0 t258 6).bind fun bt260 => (spec_l20Bars.l0 k a1 (wrap64 (1 + bt260.1)) s0_0 bt260.2 ([] : List Int) (t257 == 0))) = some (r1, r2, r3) := H
 have A3 := Aside0.mk A30
 clear A30
 replace H := Option.bind_eq_some_iff.mp H
 obtain ⟨⟨t260, t261⟩, A40, H⟩ := H
 replace H : (spec_l20Bars.l0 k a1 (wrap64 (1 + t260)) s0_0 t261 ([] : List Int) (t257 == 0)) = some (r1, r2, r3) := H
 have A4 := Aside0.mk A40
 clear A40
 have H' := Aside0.mk H
 clear H
 go_enter Tryd.func103, Tryd.ntmps103
 have TK0_ := Aside0.mk trivial
 go_wp2_with (first | (clear TK0_; (with_reducible refine gate_dst (N := 4) rfl ?_); refine box_event ?hg (N := 4) ?hd (cs := #[.slice none 0 0, .bool false]) (t := 72) ?hr ?_; (case hd => rfl); (case hg => rfl); (case hr => first | (go_simp; done) | (go_simp; rfl)); intro gb256 hg w5 hbox hb; have n0_ := Aside0.mk (IsS133.below (by repeat (first | (with_reducible first | exact HI0.out | apply IsS133.alloc | apply IsS133.drewN | apply IsS133.drew | apply IsS133.set_1) | exact HI0.out)) hb); have n1_ := Aside0.mk (KeepBut.trans (by repeat (first | (with_reducible first | exact HK.out | apply KeepBut.set_ | apply keep_drewN | apply keep_drew | apply keep_alloc) | exact HK.out)) (KeepBut.of_below hb g none) (.inl rfl)); have n2_ := Aside0.mk (below_step (by repeat (first | (with_reducible first | exact HB.out | apply below_alloc | apply pw_below_drewN | apply below_drew1 | refine below_set ?_ (IsS133.ge HI0.out)) | exact HB.out)) hb); have n3_ := Aside0.mk (hbox); have n4_ := Aside0.mk ((by rw [hg]; exact (keep_size (w := w) (g := g) (row := none) (by repeat (first | (with_reducible first | exact HK.out | apply KeepBut.set_ | apply keep_drewN | apply keep_drew | apply keep_alloc) | exact HK.out))) : w.heap.size ≤ gb256)); have n5_ := Aside0.mk ((Nat.le_trans HW0.out (by rw [hg]; exact (keep_size (w := w) (g := g) (row := none) (by repeat (first | (with_reducible first | exact HK.out | apply KeepBut.set_ | apply keep_drewN | apply keep_drew | apply keep_alloc) | exact HK.out))) : w.heap.size ≤ gb256) : w0.heap.size ≤ gb256)); have n6_ := Aside0.mk ((by rw [hg]; exact Nat.ne_of_lt (IsS133.lt (show IsS133 w0 _ g s0_0 s0_1 from by repeat (first | (with_reducible first | exact HI0.out | apply IsS133.alloc | apply IsS133.drewN | apply IsS133.drew | apply IsS133.set_1) | exact HI0.out))) : g ≠ gb256)); have n7_ := Aside0.mk ((by rw [hg]; exact Nat.ne_of_gt (IsS133.lt (show IsS133 w0 _ g s0_0 s0_1 from by repeat (first | (with_reducible first | exact HI0.out | apply IsS133.alloc | apply IsS133.drewN | apply IsS133.drew | apply IsS133.set_1) | exact HI0.out))) : gb256 ≠ g)); clear HI0 HK HB; have HI0 := n0_; have HK := n1_; have HB := n2_; have BK256 := n3_; have GW256 := n4_; have GE256 := n5_; have NB0_256 := n6_; have NB256_0 := n7_; clear n0_ n1_ n2_ n3_ n4_ n5_ n6_ n7_; clear hb hbox hg; have TK1_ := Aside0.mk trivial) | (clear TK1_; (with_reducible refine gate_callee (f := 80) rfl ?_); refine goesL_ (some 9) rfl rfl Tryd.func80 (by kernel_rfl) rfl #[.pointer (some ⟨g, 0, none⟩), .int .i64 2] rfl (by (try simp only [List.map_toArray, List.map_cons, List.map_nil]); first | done | rfl | (simp only [List.length_drop, List.length_take]; rfl)) ?_; (with_reducible refine (spec_l20Rd_pick.calls k g s0_0 s0_1 2 t257 t258 w0 _ ?side1 ?side2 A3.out).mono ?_); (case side1 => repeat (first | (with_reducible first | exact HI0.out | apply IsS133.alloc | apply IsS133.drewN | apply IsS133.drew | apply IsS133.set_1 | refine IsS133.far ?_ NB0_256.out _) | exact HI0.out)); (case side2 => repeat (first | (with_reducible first | exact HB.out | apply below_alloc | apply pw_below_drewN | apply below_drew1 | refine below_set ?_ (IsS133.ge HI0.out) | refine below_set ?_ GE256.out) | exact HB.out)); rintro e w6 ⟨rfl, hi, hb, hk⟩; refine ⟨_, rfl, ?_⟩; have n0_ := Aside0.mk (KeepBut.blk hk (g' := gb256) (o := .cells #[.slice none 0 0, .bool false] 72 (0, 0)) (bk BK256) NB256_0.out (by simp)); have n1_ := Aside0.mk (KeepBut.trans (by repeat (first | (with_reducible first | exact HK.out | apply KeepBut.set_ | apply keep_drewN | apply keep_drew | apply keep_alloc | refine keep_far ?_ GW256.out _) | exact HK.out)) hk (.inl rfl)); have n2_ := Aside0.mk (hb); have n3_ := Aside0.mk (hi); clear BK256 HK HB HI0; have BK256 := n0_; have HK := n1_; have HB := n2_; have HI0 := n3_; clear n0_ n1_ n2_ n3_; (try clear hb); (try clear hb2); (try clear hk); (try clear hi); have TK2_ := Aside0.mk trivial) | (clear TK2_; (with_reducible refine gate_dst (N := 5) rfl ?_); refine box_event ?hg (N := 5) ?hd (cs := #[.slice none 0 0, .bool false]) (t := 72) ?hr ?_; (case hd => rfl); (case hg => rfl); (case hr => first | (go_simp; done) | (go_simp; rfl)); intro gb259 hg w7 hbox hb; have n0_ := Aside0.mk (IsS133.below (by repeat (first | (with_reducible first | exact HI0.out | apply IsS133.alloc | apply IsS133.drewN | apply IsS133.drew | apply IsS133.set_1 | refine IsS133.far ?_ NB0_256.out _) | exact HI0.out)) hb); have n1_ := bkB BK256 hb; have n2_ := Aside0.mk (KeepBut.trans (by repeat (first | (with_reducible first | exact HK.out | apply KeepBut.set_ | apply keep_drewN | apply keep_drew | apply keep_alloc | refine keep_far ?_ GW256.out _) | exact HK.out)) (KeepBut.of_below hb g none) (.inl rfl)); have n3_ := Aside0.mk (below_step (by repeat (first | (with_reducible first | exact HB.out | apply below_alloc | apply pw_below_drewN | apply below_drew1 | refine below_set ?_ (IsS133.ge HI0.out) | refine below_set ?_ GE256.out) | exact HB.out)) hb); have n4_ := Aside0.mk (hbox); have n5_ := Aside0.mk ((by rw [hg]; exact (keep_size (w := w) (g := g) (row := none) (by repeat (first | (with_reducible first | exact HK.out | apply KeepBut.set_ | apply keep_drewN | apply keep_drew | apply keep_alloc | refine keep_far ?_ GW256.out _) | exact HK.out))) : w.heap.size ≤ gb259)); have n6_ := Aside0.mk ((Nat.le_trans HW0.out (by rw [hg]; exact (keep_size (w := w) (g := g) (row := none) (by repeat (first | (with_reducible first | exact HK.out | apply KeepBut.set_ | apply keep_drewN | apply keep_drew | apply keep_alloc | refine keep_far ?_ GW256.out _) | exact HK.out))) : w.heap.size ≤ gb259) : w0.heap.size ≤ gb259)); have n7_ := Aside0.mk ((by rw [hg]; exact Nat.ne_of_lt (blk_lt (g := gb256) (o := .cells #[.slice none 0 0, .bool false] 72 (0, 0)) (bk BK256)) : gb256 ≠ gb259)); have n8_ := Aside0.mk ((by rw [hg]; exact Nat.ne_of_gt (blk_lt (g := gb256) (o := .cells #[.slice none 0 0, .bool false] 72 (0, 0)) (bk BK256)) : gb259 ≠ gb256)); have n9_ := Aside0.mk ((by rw [hg]; exact Nat.ne_of_lt (IsS133.lt (show IsS133 w0 _ g s0_0 t258 from by repeat (first | (with_reducible first | exact HI0.out | apply IsS133.alloc | apply IsS133.drewN | apply IsS133.drew | apply IsS133.set_1 | refine IsS133.far ?_ NB0_256.out _) | exact HI0.out))) : g ≠ gb259)); have n10_ := Aside0.mk ((by rw [hg]; exact Nat.ne_of_gt (IsS133.lt (show IsS133 w0 _ g s0_0 t258 from by repeat (first | (with_reducible first | exact HI0.out | apply IsS133.alloc | apply IsS133.drewN | apply IsS133.drew | apply IsS133.set_1 | refine IsS133.far ?_ NB0_256.out _) | exact HI0.out))) : gb259 ≠ g)); clear HI0 BK256 HK HB; have HI0 := n0_; have BK256 := n1_; have HK := n2_; have HB := n3_; have BK259 := n4_; have GW259 := n5_; have GE259 := n6_; have NB256_259 := n7_; have NB259_256 := n8_; have NB0_259 := n9_; have NB259_0 := n10_; clear n0_ n1_ n2_ n3_ n4_ n5_ n6_ n7_ n8_ n9_ n10_; clear hb hbox hg; have hnb8 := NB259_256.out; have hnc8 := NB256_259.out; have hnb9 := NB259_0.out; have hnc9 := NB0_259.out; have hcz10_0 : w7.cell? ⟨gb259, 0, none⟩ = some (.slice none 0 0) := (blk_cell BK259.out 0).trans rfl; have hcz10_1 : w7.cell? ⟨gb259, 1, none⟩ = some (.bool false) := (blk_cell BK259.out 1).trans rfl; have hfz10_0 := blk_frozen BK259.out 0; have hfz10_1 := blk_frozen BK259.out 1; have TK3_ := Aside0.mk trivial) | (clear TK3_; (with_reducible refine gate_callee (f := 80) rfl ?_); refine goesL_ (some 13) rfl rfl Tryd.func80 (by kernel_rfl) rfl #[.pointer (some ⟨g, 0, none⟩), .int .i64 6] rfl (by (try simp only [List.map_toArray, List.map_cons, List.map_nil]); first | done | rfl | (simp only [List.length_drop, List.length_take]; rfl)) ?_; (with_reducible refine (spec_l20Rd_pick.calls k g s0_0 t258 6 t260 t261 w0 _ ?side1 ?side2 A4.out).mono ?_); (case side1 => repeat (first | (with_reducible first | exact HI0.out | apply IsS133.alloc | apply IsS133.drewN | apply IsS133.drew | apply IsS133.set_1 | refine IsS133.far ?_ NB0_256.out _ | refine IsS133.far ?_ NB0_259.out _) | exact HI0.out)); (case side2 => repeat (first | (with_reducible first | exact HB.out | apply below_alloc | apply pw_below_drewN | apply below_drew1 | refine below_set ?_ (IsS133.ge HI0.out) | refine below_set ?_ GE256.out | refine below_set ?_ GE259.out) | exact HB.out)); rintro e w11 ⟨rfl, hi, hb, hk⟩; refine ⟨_, rfl, ?_⟩; have n0_ := Aside0.mk (KeepBut.blk hk (g' := gb256) (o := .cells #[.slice none 0 0, .bool false] 72 (0, 0)) (by (with_reducible repeat (first | refine blk_drewN ?_ _ | refine blk_drew ?_ | refine blk_alloc ?_ _)); refine blk_far ?_ NB256_259.out _; (with_reducible repeat (first | refine blk_drewN ?_ _ | refine blk_drew ?_ | refine blk_alloc ?_ _)); refine blk_far ?_ NB256_259.out _; (with_reducible repeat (first | refine blk_drewN ?_ _ | refine blk_drew ?_ | refine blk_alloc ?_ _)); exact BK256.out) NB256_0.out (by simp)); have n1_ := Aside0.mk (KeepBut.blk hk (g' := gb259) (o := .cells #[.slice none 0 0, .bool (t257 == 0)] 72 (0, 0)) (by (with_reducible repeat (first | refine blk_drewN ?_ _ | refine blk_drew ?_ | refine blk_alloc ?_ _)); refine blk_put (cs := #[.slice none 0 0, .bool false]) ?_ 1 _ rfl; (with_reducible repeat (first | refine blk_drewN ?_ _ | refine blk_drew ?_ | refine blk_alloc ?_ _)); refine blk_put (cs := #[.slice none 0 0, .bool false]) ?_ 0 _ rfl; (with_reducible repeat (first | refine blk_drewN ?_ _ | refine blk_drew ?_ | refine blk_alloc ?_ _)); exact BK259.out) NB259_0.out (by simp)); have n2_ := Aside0.mk (KeepBut.trans (by repeat (first | (with_reducible first | exact HK.out | apply KeepBut.set_ | apply keep_drewN | apply keep_drew | apply keep_alloc | refine keep_far ?_ GW256.out _ | refine keep_far ?_ GW259.out _) | exact HK.out)) hk (.inl rfl)); have n3_ := Aside0.mk (hb); have n4_ := Aside0.mk (hi); clear BK256 BK259 HK HB HI0; have BK256 := n0_; have BK259 := n1_; have HK := n2_; have HB := n3_; have HI0 := n4_; clear n0_ n1_ n2_ n3_ n4_; (try clear hb); (try clear hb2); (try clear hk); (try clear hi); have TK4_ := Aside0.mk trivial))
 generalize Value.bool (t257 == 0) = vq_
 go_loopg [6] k (fun kq v6 w' => ∃ (x6_1 : Int) (x1001_1 : Int) (x260000_1 : List Int) (u260000 : Value), v6 = .int .i64 x6_1 ∧ Aside0 (spec_l20Bars.l0 kq a1 x6_1 s0_0 x1001_1 x260000_1 (t257 == 0) = some (r1, r2, r3)) ∧ Aside0 (kq ≤ k) ∧ Aside0 (Kd.R (Kd.int .i64) 3 w' w.heap.size (fun _ => True) u260000 x260000_1) ∧ Aside0 (w'.heap[gb256]? = some (.cells #[(.slice none 0 0), .bool false] 72 (0, 0))) ∧ Aside0 (w'.heap[gb259]? = some (.cells #[u260000, .bool (t257 == 0)] 72 (0, 0))) ∧ Aside0 (IsS133 w0 w' g s0_0 x1001_1) ∧ Aside0 (KeepBut w w' g none) ∧ Aside0 (Below w0.heap.size w0 w'))
 case atStart => exact ⟨(wrap64 (1 + t260)), (t261), (([] : List Int)), (.slice none 0 0), (by first | rfl | (simp; done) | (simp [*]; done)), H', ⟨Nat.le_refl _⟩, ⟨by first | exact Kd.R_nil _ _ _ _ _ | exact Kd.N_nil _ _ _ _ _ | exact Kd.V_nil _ _ _ _ _ | exact Kd.Q_nil _ _ _ _ _ | exact Kd.S_nil _ _ _ _ _⟩, ⟨bk BK256⟩, ⟨bk BK259⟩, ⟨by repeat (first | (with_reducible first | exact HI0.out | apply IsS133.alloc | apply IsS133.drewN | apply IsS133.drew | apply IsS133.set_1 | refine IsS133.far ?_ NB0_256.out _ | refine IsS133.far ?_ NB0_259.out _) | exact HI0.out)⟩, ⟨by repeat (first | (with_reducible first | exact HK.out | apply KeepBut.set_ | apply keep_drewN | apply keep_drew | apply keep_alloc | refine keep_far ?_ GW256.out _ | refine keep_far ?_ GW259.out _) | exact HK.out)⟩, ⟨by repeat (first | (with_reducible first | exact HB.out | apply below_alloc | apply pw_below_drewN | apply below_drew1 | refine below_set ?_ (IsS133.ge HI0.out) | refine below_set ?_ GE256.out | refine below_set ?_ GE259.out) | exact HB.out)⟩⟩
 case round =>
  clear H'
  try clear c1
  try clear p2
  try clear p6
  try clear c8
  try clear c9
  try clear c10
  try clear hcz10_0
  try clear hcz10_1
  try clear hfz10_0
  try clear hfz10_1
  obtain ⟨x6_1, x1001_1, x260000_1, u260000, rfl, HA, HK1, HO_260000, BK256, BK259, HI0, HK, HB⟩ := hrel
  cases gk with
  | zero => exact absurd HA.out (by simp [spec_l20Bars.l0])
  | succ k1 =>
   have H := HA.out
   clear HA
   simp only [spec_l20Bars.l0] at H
   by_cases c12 : x6_1 > 0
   ·rw [if_pos c12] at H
    have c12b0 : decide (0 < x6_1) = true := decide_eq_true c12
    clear c12
    replace H := Option.bind_eq_some_iff.mp H
    obtain ⟨⟨t262, t263⟩, A130, H⟩ := H
    replace H : (if (t257 == 0) = true then ((spec_l20Rd_pick.f k1 s0_0 t263 4).bind fun bt264 => (if bt264.1 = 0 then (if x260000_1.length < 17592186044416 then (spec_l20Bars.l0 k1 a1 (wrap64 (x6_1 - 1)) s0_0 bt264.2 (x260000_1 ++ [3]) (t257 == 0)) else (none)) else (if x260000_1.length < 17592186044416 then (spec_l20Bars.l0 k1 a1 (wrap64 (x6_1 - 1)) s0_0 bt264.2 (x260000_1 ++ [wrap64 (1 + t262)]) (t257 == 0)) else (none)))) else (if x260000_1.length < 17592186044416 then (spec_l20Bars.l0 k1 a1 (wrap64 (x6_1 - 1)) s0_0 t263 (x260000_1 ++ [wrap64 (1 + t262)]) (t257 == 0)) else (none))) = some (r1, r2, r3) := H
    have A13 := Aside0.mk A130
    clear A130
    by_cases c14 : (t257 == 0) = true
    ·rw [if_pos c14] at H
     have c14b0 : (t257 == 0) = true := c14
     (try (have c14b1 : decide (t257 = 0) = true := by simpa using c14))
     (try (have c14b2 : (t257 == 0) = true := by simpa using c14))
     clear c14
     replace H := Option.bind_eq_some_iff.mp H
     obtain ⟨⟨t264, t265⟩, A150, H⟩ := H
     replace H : (if t264 = 0 then (if x260000_1.length < 17592186044416 then (spec_l20Bars.l0 k1 a1 (wrap64 (x6_1 - 1)) s0_0 t265 (x260000_1 ++ [3]) (t257 == 0)) else (none)) else (if x260000_1.length < 17592186044416 then (spec_l20Bars.l0 k1 a1 (wrap64 (x6_1 - 1)) s0_0 t265 (x260000_1 ++ [wrap64 (1 + t262)]) (t257 == 0)) else (none))) = some (r1, r2, r3) := H
     have A15 := Aside0.mk A150
     clear A150
     by_cases c16 : t264 = 0
     ·rw [if_pos c16] at H
      have c16b0 : (t264 == 0) = true := beq_iff_eq.mpr c16
      have c16b1 : (t264 != 0) = false := bne_eq_false_iff_eq.mpr c16
      clear c16
      by_cases c17 : x260000_1.length < 17592186044416
      ·rw [if_pos c17] at H
       have LMc17 := Aside0.mk c17
       clear c17
       obtain ⟨y266, hy266⟩ : ∃ y_ : List Int, y_ = (x260000_1 ++ [3]) := ⟨_, rfl⟩
       replace H : (spec_l20Bars.l0 k1 a1 (wrap64 (x6_1 - 1)) s0_0 t265 y266 (t257 == 0)) = some (r1, r2, r3) := by first | (rw [hy266]; with_reducible exact H) | (have H2_ := (Option.bind_some _ _).symm.trans H; rw [hy266]; with_reducible exact H2_) | (have H2_ := (Option.bind_some _ _).symm.trans H; with_reducible exact H2_) | with_reducible exact H | (rw [hy266]; exact H) | exact H
       have Ny266 := Aside0.mk hy266
       clear hy266
       have H' := Aside0.mk H
       clear H
       have TK0_ := Aside0.mk trivial
       go_wp2_with (first | (clear TK0_; (with_reducible refine gate_callee (f := 80) rfl ?_); refine goesL_ (some 20) rfl rfl Tryd.func80 (by kernel_rfl) rfl #[.pointer (some ⟨g, 0, none⟩), .int .i64 2] rfl (by (try simp only [List.map_toArray, List.map_cons, List.map_nil]); first | done | rfl | (simp only [List.length_drop, List.length_take]; rfl)) ?_; (with_reducible refine (spec_l20Rd_pick.calls k1 g s0_0 x1001_1 2 t262 t263 w0 _ ?side1 ?side2 A13.out).mono ?_); (case side1 => repeat (first | (with_reducible first | exact HI0.out | apply IsS133.alloc | apply IsS133.drewN | apply IsS133.drew | apply IsS133.set_1 | refine IsS133.far ?_ NB0_256.out _ | refine IsS133.far ?_ NB0_259.out _) | exact HI0.out)); (case side2 => repeat (first | (with_reducible first | exact HB.out | apply below_alloc | apply pw_below_drewN | apply below_drew1 | refine below_set ?_ (IsS133.ge HI0.out) | refine below_set ?_ GE256.out | refine below_set ?_ GE259.out) | exact HB.out)); rintro e w18 ⟨rfl, hi, hb, hk⟩; refine ⟨_, rfl, ?_⟩; have n0_ := Aside0.mk (Kd.R_mono (Kd.R_keep (IsS133.apart (show IsS133 w0 _ g s0_0 x1001_1 from by repeat (first | (with_reducible first | exact HI0.out | apply IsS133.alloc | apply IsS133.drewN | apply IsS133.drew | apply IsS133.set_1 | refine IsS133.far ?_ NB0_256.out _ | refine IsS133.far ?_ NB0_259.out _) | exact HI0.out)) (rk HO_260000) (by decide)) hk (fun _ h => h.2)) (fun _ h => h.1)); have n1_ := Aside0.mk (KeepBut.blk hk (g' := gb256) (o := .cells #[.slice none 0 0, .bool false] 72 (0, 0)) (bk BK256) NB256_0.out (by simp)); have n2_ := Aside0.mk (KeepBut.blk hk (g' := gb259) (o := .cells #[u260000, .bool (t257 == 0)] 72 (0, 0)) (bk BK259) NB259_0.out (by simp)); have n3_ := Aside0.mk (KeepBut.trans (by repeat (first | (with_reducible first | exact HK.out | apply KeepBut.set_ | apply keep_drewN | apply keep_drew | apply keep_alloc | refine keep_far ?_ GW256.out _ | refine keep_far ?_ GW259.out _) | exact HK.out)) hk (.inl rfl)); have n4_ := Aside0.mk (hb); have n5_ := Aside0.mk (hi); clear HO_260000 BK256 BK259 HK HB HI0; have HO_260000 := n0_; have BK256 := n1_; have BK259 := n2_; have HK := n3_; have HB := n4_; have HI0 := n5_; clear n0_ n1_ n2_ n3_ n4_ n5_; (try clear hb); (try clear hb2); (try clear hk); (try clear hi); have hnb19 := NB259_256.out; have hnc19 := NB256_259.out; have hnb20 := NB259_0.out; have hnc20 := NB0_259.out; have hcz21_0 : w18.cell? ⟨gb259, 0, none⟩ = some (u260000) := (blk_cell BK259.out 0).trans rfl; have hcz21_1 : w18.cell? ⟨gb259, 1, none⟩ = some (.bool (t257 == 0)) := (blk_cell BK259.out 1).trans rfl; have hfz21_0 := blk_frozen BK259.out 0; have hfz21_1 := blk_frozen BK259.out 1; have TK1_ := Aside0.mk trivial) | (clear TK1_; go_at_call 80; (with_reducible refine (spec_l20Rd_pick.calls k1 g s0_0 t263 4 t264 t265 w0 _ ?side1 ?side2 A15.out).mono ?_); (case side1 => repeat (first | (with_reducible first | exact HI0.out | apply IsS133.alloc | apply IsS133.drewN | apply IsS133.drew | apply IsS133.set_1 | refine IsS133.far ?_ NB0_256.out _ | refine IsS133.far ?_ NB0_259.out _) | exact HI0.out)); (case side2 => repeat (first | (with_reducible first | exact HB.out | apply below_alloc | apply pw_below_drewN | apply below_drew1 | refine below_set ?_ (IsS133.ge HI0.out) | refine below_set ?_ GE256.out | refine below_set ?_ GE259.out) | exact HB.out)); rintro e w22 ⟨rfl, hi, hb, hk⟩; have n0_ := Aside0.mk (Kd.R_mono (Kd.R_keep (IsS133.apart (show IsS133 w0 _ g s0_0 t263 from by repeat (first | (with_reducible first | exact HI0.out | apply IsS133.alloc | apply IsS133.drewN | apply IsS133.drew | apply IsS133.set_1 | refine IsS133.far ?_ NB0_256.out _ | refine IsS133.far ?_ NB0_259.out _) | exact HI0.out)) (rk HO_260000) (by decide)) hk (fun _ h => h.2)) (fun _ h => h.1)); have n1_ := Aside0.mk (KeepBut.blk hk (g' := gb256) (o := .cells #[.slice none 0 0, .bool false] 72 (0, 0)) (bk BK256) NB256_0.out (by simp)); have n2_ := Aside0.mk (KeepBut.blk hk (g' := gb259) (o := .cells #[u260000, .bool (t257 == 0)] 72 (0, 0)) (bk BK259) NB259_0.out (by simp)); have n3_ := Aside0.mk (KeepBut.trans (by repeat (first | (with_reducible first | exact HK.out | apply KeepBut.set_ | apply keep_drewN | apply keep_drew | apply keep_alloc | refine keep_far ?_ GW256.out _ | refine keep_far ?_ GW259.out _) | exact HK.out)) hk (.inl rfl)); have n4_ := Aside0.mk (hb); have n5_ := Aside0.mk (hi); clear HO_260000 BK256 BK259 HK HB HI0; have HO_260000 := n0_; have BK256 := n1_; have BK259 := n2_; have HK := n3_; have HB := n4_; have HI0 := n5_; clear n0_ n1_ n2_ n3_ n4_ n5_; (try clear hb); (try clear hb2); (try clear hk); (try clear hi); have hcz23_0 : w22.cell? ⟨gb259, 0, none⟩ = some (u260000) := (blk_cell BK259.out 0).trans rfl; have hcz23_1 : w22.cell? ⟨gb259, 1, none⟩ = some (.bool (t257 == 0)) := (blk_cell BK259.out 1).trans rfl; have hfz23_0 := blk_frozen BK259.out 0; have hfz23_1 := blk_frozen BK259.out 1; have TK2_ := Aside0.mk trivial) | (clear TK2_; (with_reducible refine gate_builtin (b := .append) (xs := #[.tmp 30, .tmp 32]) rfl ?_); at_builtin; refine Kd.R_append (Kd.int .i64) w.heap.size rfl (.tmp 30) (.tmp 32) 30 3 (.int .i64 0) 8 rfl Tryd.underlying30 info3 rfl (by decide) (by omega) u260000 x260000_1 3 [.int .i64 3] (fun _ => True) (fun _ => False) rfl rfl ?aP (fun _ hk => by first | exact hk.elim | grind) ?aF ?aO (Below.refl _ _) ?aS ?aL ?_; (case aP => exact rfl); (case aF => exact (fun _ _ => trivial)); (case aO => exact (rk HO_260000)); (case aS => exact (keep_size (w := w) (g := g) (row := none) (by repeat (first | (with_reducible first | exact HK.out | apply KeepBut.set_ | apply keep_drewN | apply keep_drew | apply keep_alloc | refine keep_far ?_ GW256.out _ | refine keep_far ?_ GW259.out _) | exact HK.out)))); (case aL => have := LMc17.out; omega); intro v267 w24 ho hb hg hat; rw [← Ny266.out] at ho; have n0_ := Aside0.mk (blk_grown (g := gb256) (o := .cells #[.slice none 0 0, .bool false] 72 (0, 0)) (bk BK256) hg (Kd.R_ne HO_260000.out BK256.out (by decide))); have n1_ := Aside0.mk (blk_grown (g := gb259) (o := .cells #[u260000, .bool (t257 == 0)] 72 (0, 0)) (bk BK259) hg (Kd.R_ne HO_260000.out BK259.out (by decide))); have n2_ := Aside0.mk (IsS133.grown (by repeat (first | (with_reducible first | exact HI0.out | apply IsS133.alloc | apply IsS133.drewN | apply IsS133.drew | apply IsS133.set_1 | refine IsS133.far ?_ NB0_256.out _ | refine IsS133.far ?_ NB0_259.out _) | exact HI0.out)) hg (IsS133.own_ne HI0.out HO_260000.out (by decide))); have n3_ := Aside0.mk (below_weaken (by repeat (first | (with_reducible first | exact HB.out | apply below_alloc | apply pw_below_drewN | apply below_drew1 | refine below_set ?_ (IsS133.ge HI0.out) | refine below_set ?_ GE256.out | refine below_set ?_ GE259.out) | exact HB.out)) HL.out hb); have n4_ := Aside0.mk (KeepBut.trans (by repeat (first | (with_reducible first | exact HK.out | apply KeepBut.set_ | apply keep_drewN | apply keep_drew | apply keep_alloc | refine keep_far ?_ GW256.out _ | refine keep_far ?_ GW259.out _) | exact HK.out)) (KeepBut.of_grown hg g) (Kd.R_base2 HO_260000.out)); have n5_ := Aside0.mk (ho); clear BK256 BK259 HI0 HB HK HO_260000; have BK256 := n0_; have BK259 := n1_; have HI0 := n2_; have HB := n3_; have HK := n4_; have HO268 := n5_; clear n0_ n1_ n2_ n3_ n4_ n5_; clear ho hb hg hat; obtain ⟨Ao25, co25, eo25⟩ := Kd.R_slice HO268.out; subst eo25; have hcz26_0 : w24.cell? ⟨gb259, 0, none⟩ = some (u260000) := (blk_cell BK259.out 0).trans rfl; have hcz26_1 : w24.cell? ⟨gb259, 1, none⟩ = some (.bool (t257 == 0)) := (blk_cell BK259.out 1).trans rfl; have hfz26_0 := blk_frozen BK259.out 0; have hfz26_1 := blk_frozen BK259.out 1; have TK3_ := Aside0.mk trivial))
       go_roundg k1
       case measure => have := HK1.out; omega
       case rel => exact ⟨(wrap64 (x6_1 - 1)), (t265), (y266), (.slice Ao25 y266.length co25), (by first | rfl | (simp; done) | (simp [*]; done)), H', ⟨by have := HK1.out; omega⟩, ⟨by (with_reducible repeat (first | apply Kd.R_alloc | apply Kd.R_drewN | apply Kd.R_drew)); exact Kd.R_mono (Kd.R_far (p := ⟨gb259, 0, none⟩) (Kd.R_types HO268.out BK259.out (by decide)) (fun _ hk => by first | exact hk.2 | grind) (.slice Ao25 y266.length co25)) (fun _ hk => trivial)⟩, ⟨by (with_reducible repeat (first | refine blk_drewN ?_ _ | refine blk_drew ?_ | refine blk_alloc ?_ _)); refine blk_far ?_ NB256_259.out _; (with_reducible repeat (first | refine blk_drewN ?_ _ | refine blk_drew ?_ | refine blk_alloc ?_ _)); exact BK256.out⟩, ⟨by (with_reducible repeat (first | refine blk_drewN ?_ _ | refine blk_drew ?_ | refine blk_alloc ?_ _)); refine blk_put (cs := #[u260000, .bool (t257 == 0)]) ?_ 0 _ rfl; (with_reducible repeat (first | refine blk_drewN ?_ _ | refine blk_drew ?_ | refine blk_alloc ?_ _)); exact BK259.out⟩, ⟨by repeat (first | (with_reducible first | exact HI0.out | apply IsS133.alloc | apply IsS133.drewN | apply IsS133.drew | apply IsS133.set_1 | refine IsS133.far ?_ NB0_256.out _ | refine IsS133.far ?_ NB0_259.out _) | exact HI0.out)⟩, ⟨by repeat (first | (with_reducible first | exact HK.out | apply KeepBut.set_ | apply keep_drewN | apply keep_drew | apply keep_alloc | refine keep_far ?_ GW256.out _ | refine keep_far ?_ GW259.out _) | exact HK.out)⟩, ⟨by repeat (first | (with_reducible first | exact HB.out | apply below_alloc | apply pw_below_drewN | apply below_drew1 | refine below_set ?_ (IsS133.ge HI0.out) | refine below_set ?_ GE256.out | refine below_set ?_ GE259.out) | exact HB.out)⟩⟩
      ·rw [if_neg c17] at H
       exact absurd H (by simp)
     ·rw [if_neg c16] at H
      have c16b0 : (t264 == 0) = false := beq_eq_false_iff_ne.mpr c16
      have c16b1 : (t264 != 0) = true := bne_iff_ne.mpr c16
      by_cases c27 : x260000_1.length < 17592186044416
      ·rw [if_pos c27] at H
       have LMc27 := Aside0.mk c27
       clear c27
       obtain ⟨y269, hy269⟩ : ∃ y_ : List Int, y_ = (x260000_1 ++ [wrap64 (1 + t262)]) := ⟨_, rfl⟩
       replace H : (spec_l20Bars.l0 k1 a1 (wrap64 (x6_1 - 1)) s0_0 t265 y269 (t257 == 0)) = some (r1, r2, r3) := by first | (rw [hy269]; with_reducible exact H) | (have H2_ := (Option.bind_some _ _).symm.trans H; rw [hy269]; with_reducible exact H2_) | (have H2_ := (Option.bind_some _ _).symm.trans H; with_reducible exact H2_) | with_reducible exact H | (rw [hy269]; exact H) | exact H
       have Ny269 := Aside0.mk hy269
       clear hy269
       have H' := Aside0.mk H
       clear H
       have TK0_ := Aside0.mk trivial
       go_wp2_with (first | (clear TK0_; (with_reducible refine gate_callee (f := 80) rfl ?_); refine goesL_ (some 20) rfl rfl Tryd.func80 (by kernel_rfl) rfl #[.pointer (some ⟨g, 0, none⟩), .int .i64 2] rfl (by (try simp only [List.map_toArray, List.map_cons, List.map_nil]); first | done | rfl | (simp only [List.length_drop, List.length_take]; rfl)) ?_; (with_reducible refine (spec_l20Rd_pick.calls k1 g s0_0 x1001_1 2 t262 t263 w0 _ ?side1 ?side2 A13.out).mono ?_); (case side1 => repeat (first | (with_reducible first | exact HI0.out | apply IsS133.alloc | apply IsS133.drewN | apply IsS133.drew | apply IsS133.set_1 | refine IsS133.far ?_ NB0_256.out _ | refine IsS133.far ?_ NB0_259.out _) | exact HI0.out)); (case side2 => repeat (first | (with_reducible first | exact HB.out | apply below_alloc | apply pw_below_drewN | apply below_drew1 | refine below_set ?_ (IsS133.ge HI0.out) | refine below_set ?_ GE256.out | refine below_set ?_ GE259.out) | exact HB.out)); rintro e w28 ⟨rfl, hi, hb, hk⟩; refine ⟨_, rfl, ?_⟩; have n0_ := Aside0.mk (Kd.R_mono (Kd.R_keep (IsS133.apart (show IsS133 w0 _ g s0_0 x1001_1 from by repeat (first | (with_reducible first | exact HI0.out | apply IsS133.alloc | apply IsS133.drewN | apply IsS133.drew | apply IsS133.set_1 | refine IsS133.far ?_ NB0_256.out _ | refine IsS133.far ?_ NB0_259.out _) | exact HI0.out)) (rk HO_260000) (by decide)) hk (fun _ h => h.2)) (fun _ h => h.1)); have n1_ := Aside0.mk (KeepBut.blk hk (g' := gb256) (o := .cells #[.slice none 0 0, .bool false] 72 (0, 0)) (bk BK256) NB256_0.out (by simp)); have n2_ := Aside0.mk (KeepBut.blk hk (g' := gb259) (o := .cells #[u260000, .bool (t257 == 0)] 72 (0, 0)) (bk BK259) NB259_0.out (by simp)); have n3_ := Aside0.mk (KeepBut.trans (by repeat (first | (with_reducible first | exact HK.out | apply KeepBut.set_ | apply keep_drewN | apply keep_drew | apply keep_alloc | refine keep_far ?_ GW256.out _ | refine keep_far ?_ GW259.out _) | exact HK.out)) hk (.inl rfl)); have n4_ := Aside0.mk (hb); have n5_ := Aside0.mk (hi); clear HO_260000 BK256 BK259 HK HB HI0; have HO_260000 := n0_; have BK256 := n1_; have BK259 := n2_; have HK := n3_; have HB := n4_; have HI0 := n5_; clear n0_ n1_ n2_ n3_ n4_ n5_; (try clear hb); (try clear hb2); (try clear hk); (try clear hi); have hnb29 := NB259_256.out; have hnc29 := NB256_259.out; have hnb30 := NB259_0.out; have hnc30 := NB0_259.out; have hcz31_0 : w28.cell? ⟨gb259, 0, none⟩ = some (u260000) := (blk_cell BK259.out 0).trans rfl; have hcz31_1 : w28.cell? ⟨gb259, 1, none⟩ = some (.bool (t257 == 0)) := (blk_cell BK259.out 1).trans rfl; have hfz31_0 := blk_frozen BK259.out 0; have hfz31_1 := blk_frozen BK259.out 1; have TK1_ := Aside0.mk trivial) | (clear TK1_; go_at_call 80; (with_reducible refine (spec_l20Rd_pick.calls k1 g s0_0 t263 4 t264 t265 w0 _ ?side1 ?side2 A15.out).mono ?_); (case side1 => repeat (first | (with_reducible first | exact HI0.out | apply IsS133.alloc | apply IsS133.drewN | apply IsS133.drew | apply IsS133.set_1 | refine IsS133.far ?_ NB0_256.out _ | refine IsS133.far ?_ NB0_259.out _) | exact HI0.out)); (case side2 => repeat (first | (with_reducible first | exact HB.out | apply below_alloc | apply pw_below_drewN | apply below_drew1 | refine below_set ?_ (IsS133.ge HI0.out) | refine below_set ?_ GE256.out | refine below_set ?_ GE259.out) | exact HB.out)); rintro e w32 ⟨rfl, hi, hb, hk⟩; have n0_ := Aside0.mk (Kd.R_mono (Kd.R_keep (IsS133.apart (show IsS133 w0 _ g s0_0 t263 from by repeat (first | (with_reducible first | exact HI0.out | apply IsS133.alloc | apply IsS133.drewN | apply IsS133.drew | apply IsS133.set_1 | refine IsS133.far ?_ NB0_256.out _ | refine IsS133.far ?_ NB0_259.out _) | exact HI0.out)) (rk HO_260000) (by decide)) hk (fun _ h => h.2)) (fun _ h => h.1)); have n1_ := Aside0.mk (KeepBut.blk hk (g' := gb256) (o := .cells #[.slice none 0 0, .bool false] 72 (0, 0)) (bk BK256) NB256_0.out (by simp)); have n2_ := Aside0.mk (KeepBut.blk hk (g' := gb259) (o := .cells #[u260000, .bool (t257 == 0)] 72 (0, 0)) (bk BK259) NB259_0.out (by simp)); have n3_ := Aside0.mk (KeepBut.trans (by repeat (first | (with_reducible first | exact HK.out | apply KeepBut.set_ | apply keep_drewN | apply keep_drew | apply keep_alloc | refine keep_far ?_ GW256.out _ | refine keep_far ?_ GW259.out _) | exact HK.out)) hk (.inl rfl)); have n4_ := Aside0.mk (hb); have n5_ := Aside0.mk (hi); clear HO_260000 BK256 BK259 HK HB HI0; have HO_260000 := n0_; have BK256 := n1_; have BK259 := n2_; have HK := n3_; have HB := n4_; have HI0 := n5_; clear n0_ n1_ n2_ n3_ n4_ n5_; (try clear hb); (try clear hb2); (try clear hk); (try clear hi); have hcz33_0 : w32.cell? ⟨gb259, 0, none⟩ = some (u260000) := (blk_cell BK259.out 0).trans rfl; have hcz33_1 : w32.cell? ⟨gb259, 1, none⟩ = some (.bool (t257 == 0)) := (blk_cell BK259.out 1).trans rfl; have hfz33_0 := blk_frozen BK259.out 0; have hfz33_1 := blk_frozen BK259.out 1; have TK2_ := Aside0.mk trivial) | (clear TK2_; (with_reducible refine gate_builtin (b := .append) (xs := #[.tmp 30, .tmp 32]) rfl ?_); at_builtin; refine Kd.R_append (Kd.int .i64) w.heap.size rfl (.tmp 30) (.tmp 32) 30 3 (.int .i64 0) 8 rfl Tryd.underlying30 info3 rfl (by decide) (by omega) u260000 x260000_1 (wrap64 (1 + t262)) [.int .i64 (wrap64 (1 + t262))] (fun _ => True) (fun _ => False) rfl rfl ?aP (fun _ hk => by first | exact hk.elim | grind) ?aF ?aO (Below.refl _ _) ?aS ?aL ?_; (case aP => exact rfl); (case aF => exact (fun _ _ => trivial)); (case aO => exact (rk HO_260000)); (case aS => exact (keep_size (w := w) (g := g) (row := none) (by repeat (first | (with_reducible first | exact HK.out | apply KeepBut.set_ | apply keep_drewN | apply keep_drew | apply keep_alloc | refine keep_far ?_ GW256.out _ | refine keep_far ?_ GW259.out _) | exact HK.out)))); (case aL => have := LMc27.out; omega); intro v270 w34 ho hb hg hat; rw [← Ny269.out] at ho; have n0_ := Aside0.mk (blk_grown (g := gb256) (o := .cells #[.slice none 0 0, .bool false] 72 (0, 0)) (bk BK256) hg (Kd.R_ne HO_260000.out BK256.out (by decide))); have n1_ := Aside0.mk (blk_grown (g := gb259) (o := .cells #[u260000, .bool (t257 == 0)] 72 (0, 0)) (bk BK259) hg (Kd.R_ne HO_260000.out BK259.out (by decide))); have n2_ := Aside0.mk (IsS133.grown (by repeat (first | (with_reducible first | exact HI0.out | apply IsS133.alloc | apply IsS133.drewN | apply IsS133.drew | apply IsS133.set_1 | refine IsS133.far ?_ NB0_256.out _ | refine IsS133.far ?_ NB0_259.out _) | exact HI0.out)) hg (IsS133.own_ne HI0.out HO_260000.out (by decide))); have n3_ := Aside0.mk (below_weaken (by repeat (first | (with_reducible first | exact HB.out | apply below_alloc | apply pw_below_drewN | apply below_drew1 | refine below_set ?_ (IsS133.ge HI0.out) | refine below_set ?_ GE256.out | refine below_set ?_ GE259.out) | exact HB.out)) HL.out hb); have n4_ := Aside0.mk (KeepBut.trans (by repeat (first | (with_reducible first | exact HK.out | apply KeepBut.set_ | apply keep_drewN | apply keep_drew | apply keep_alloc | refine keep_far ?_ GW256.out _ | refine keep_far ?_ GW259.out _) | exact HK.out)) (KeepBut.of_grown hg g) (Kd.R_base2 HO_260000.out)); have n5_ := Aside0.mk (ho); clear BK256 BK259 HI0 HB HK HO_260000; have BK256 := n0_; have BK259 := n1_; have HI0 := n2_; have HB := n3_; have HK := n4_; have HO271 := n5_; clear n0_ n1_ n2_ n3_ n4_ n5_; clear ho hb hg hat; obtain ⟨Ao35, co35, eo35⟩ := Kd.R_slice HO271.out; subst eo35; have hcz36_0 : w34.cell? ⟨gb259, 0, none⟩ = some (u260000) := (blk_cell BK259.out 0).trans rfl; have hcz36_1 : w34.cell? ⟨gb259, 1, none⟩ = some (.bool (t257 == 0)) := (blk_cell BK259.out 1).trans rfl; have hfz36_0 := blk_frozen BK259.out 0; have hfz36_1 := blk_frozen BK259.out 1; have TK3_ := Aside0.mk trivial))
       go_roundg k1
       case measure => have := HK1.out; omega
       case rel => exact ⟨(wrap64 (x6_1 - 1)), (t265), (y269), (.slice Ao35 y269.length co35), (by first | rfl | (simp; done) | (simp [*]; done)), H', ⟨by have := HK1.out; omega⟩, ⟨by (with_reducible repeat (first | apply Kd.R_alloc | apply Kd.R_drewN | apply Kd.R_drew)); exact Kd.R_mono (Kd.R_far (p := ⟨gb259, 0, none⟩) (Kd.R_types HO271.out BK259.out (by decide)) (fun _ hk => by first | exact hk.2 | grind) (.slice Ao35 y269.length co35)) (fun _ hk => trivial)⟩, ⟨by (with_reducible repeat (first | refine blk_drewN ?_ _ | refine blk_drew ?_ | refine blk_alloc ?_ _)); refine blk_far ?_ NB256_259.out _; (with_reducible repeat (first | refine blk_drewN ?_ _ | refine blk_drew ?_ | refine blk_alloc ?_ _)); exact BK256.out⟩, ⟨by (with_reducible repeat (first | refine blk_drewN ?_ _ | refine blk_drew ?_ | refine blk_alloc ?_ _)); refine blk_put (cs := #[u260000, .bool (t257 == 0)]) ?_ 0 _ rfl; (with_reducible repeat (first | refine blk_drewN ?_ _ | refine blk_drew ?_ | refine blk_alloc ?_ _)); exact BK259.out⟩, ⟨by repeat (first | (with_reducible first | exact HI0.out | apply IsS133.alloc | apply IsS133.drewN | apply IsS133.drew | apply IsS133.set_1 | refine IsS133.far ?_ NB0_256.out _ | refine IsS133.far ?_ NB0_259.out _) | exact HI0.out)⟩, ⟨by repeat (first | (with_reducible first | exact HK.out | apply KeepBut.set_ | apply keep_drewN | apply keep_drew | apply keep_alloc | refine keep_far ?_ GW256.out _ | refine keep_far ?_ GW259.out _) | exact HK.out)⟩, ⟨by repeat (first | (with_reducible first | exact HB.out | apply below_alloc | apply pw_below_drewN | apply below_drew1 | refine below_set ?_ (IsS133.ge HI0.out) | refine below_set ?_ GE256.out | refine below_set ?_ GE259.out) | exact HB.out)⟩⟩
      ·rw [if_neg c27] at H
       exact absurd H (by simp)
    ·rw [if_neg c14] at H
     have c14b0 : (t257 == 0) = false := by simpa using c14
     (try (have c14b1 : decide (t257 = 0) = false := by simpa using c14))
     (try (have c14b2 : (t257 == 0) = false := by simpa using c14))
     (try (have c14b3 : ¬ (t257 = 0) := by simpa using c14))
     clear c14
     by_cases c37 : x260000_1.length < 17592186044416
     ·rw [if_pos c37] at H
      have LMc37 := Aside0.mk c37
      clear c37
      obtain ⟨y272, hy272⟩ : ∃ y_ : List Int, y_ = (x260000_1 ++ [wrap64 (1 + t262)]) := ⟨_, rfl⟩
      replace H : (spec_l20Bars.l0 k1 a1 (wrap64 (x6_1 - 1)) s0_0 t263 y272 (t257 == 0)) = some (r1, r2, r3) := by first | (rw [hy272]; with_reducible exact H) | (have H2_ := (Option.bind_some _ _).symm.trans H; rw [hy272]; with_reducible exact H2_) | (have H2_ := (Option.bind_some _ _).symm.trans H; with_reducible exact H2_) | with_reducible exact H | (rw [hy272]; exact H) | exact H
      have Ny272 := Aside0.mk hy272
      clear hy272
      have H' := Aside0.mk H
      clear H
      go_wp2_with (first | ((with_reducible refine gate_callee (f := 80) rfl ?_); refine goesL_ (some 20) rfl rfl Tryd.func80 (by kernel_rfl) rfl #[.pointer (some ⟨g, 0, none⟩), .int .i64 2] rfl (by (try simp only [List.map_toArray, List.map_cons, List.map_nil]); first | done | rfl | (simp only [List.length_drop, List.length_take]; rfl)) ?_; (with_reducible refine (spec_l20Rd_pick.calls k1 g s0_0 x1001_1 2 t262 t263 w0 _ ?side1 ?side2 A13.out).mono ?_); (case side1 => repeat (first | (with_reducible first | exact HI0.out | apply IsS133.alloc | apply IsS133.drewN | apply IsS133.drew | apply IsS133.set_1 | refine IsS133.far ?_ NB0_256.out _ | refine IsS133.far ?_ NB0_259.out _) | exact HI0.out)); (case side2 => repeat (first | (with_reducible first | exact HB.out | apply below_alloc | apply pw_below_drewN | apply below_drew1 | refine below_set ?_ (IsS133.ge HI0.out) | refine below_set ?_ GE256.out | refine below_set ?_ GE259.out) | exact HB.out)); rintro e w38 ⟨rfl, hi, hb, hk⟩; refine ⟨_, rfl, ?_⟩; have n0_ := Aside0.mk (Kd.R_mono (Kd.R_keep (IsS133.apart (show IsS133 w0 _ g s0_0 x1001_1 from by repeat (first | (with_reducible first | exact HI0.out | apply IsS133.alloc | apply IsS133.drewN | apply IsS133.drew | apply IsS133.set_1 | refine IsS133.far ?_ NB0_256.out _ | refine IsS133.far ?_ NB0_259.out _) | exact HI0.out)) (rk HO_260000) (by decide)) hk (fun _ h => h.2)) (fun _ h => h.1)); have n1_ := Aside0.mk (KeepBut.blk hk (g' := gb256) (o := .cells #[.slice none 0 0, .bool false] 72 (0, 0)) (bk BK256) NB256_0.out (by simp)); have n2_ := Aside0.mk (KeepBut.blk hk (g' := gb259) (o := .cells #[u260000, .bool (t257 == 0)] 72 (0, 0)) (bk BK259) NB259_0.out (by simp)); have n3_ := Aside0.mk (KeepBut.trans (by repeat (first | (with_reducible first | exact HK.out | apply KeepBut.set_ | apply keep_drewN | apply keep_drew | apply keep_alloc | refine keep_far ?_ GW256.out _ | refine keep_far ?_ GW259.out _) | exact HK.out)) hk (.inl rfl)); have n4_ := Aside0.mk (hb); have n5_ := Aside0.mk (hi); clear HO_260000 BK256 BK259 HK HB HI0; have HO_260000 := n0_; have BK256 := n1_; have BK259 := n2_; have HK := n3_; have HB := n4_; have HI0 := n5_; clear n0_ n1_ n2_ n3_ n4_ n5_; (try clear hb); (try clear hb2); (try clear hk); (try clear hi); have hnb39 := NB259_256.out; have hnc39 := NB256_259.out; have hnb40 := NB259_0.out; have hnc40 := NB0_259.out; have hcz41_0 : w38.cell? ⟨gb259, 0, none⟩ = some (u260000) := (blk_cell BK259.out 0).trans rfl; have hcz41_1 : w38.cell? ⟨gb259, 1, none⟩ = some (.bool (t257 == 0)) := (blk_cell BK259.out 1).trans rfl; have hfz41_0 := blk_frozen BK259.out 0; have hfz41_1 := blk_frozen BK259.out 1) | ((with_reducible refine gate_builtin (b := .append) (xs := #[.tmp 30, .tmp 32]) rfl ?_); at_builtin; refine Kd.R_append (Kd.int .i64) w.heap.size rfl (.tmp 30) (.tmp 32) 30 3 (.int .i64 0) 8 rfl Tryd.underlying30 info3 rfl (by decide) (by omega) u260000 x260000_1 (wrap64 (1 + t262)) [.int .i64 (wrap64 (1 + t262))] (fun _ => True) (fun _ => False) rfl rfl ?aP (fun _ hk => by first | exact hk.elim | grind) ?aF ?aO (Below.refl _ _) ?aS ?aL ?_; (case aP => exact rfl); (case aF => exact (fun _ _ => trivial)); (case aO => exact (rk HO_260000)); (case aS => exact (keep_size (w := w) (g := g) (row := none) (by repeat (first | (with_reducible first | exact HK.out | apply KeepBut.set_ | apply keep_drewN | apply keep_drew | apply keep_alloc | refine keep_far ?_ GW256.out _ | refine keep_far ?_ GW259.out _) | exact HK.out)))); (case aL => have := LMc37.out; omega); intro v273 w42 ho hb hg hat; rw [← Ny272.out] at ho; have n0_ := Aside0.mk (blk_grown (g := gb256) (o := .cells #[.slice none 0 0, .bool false] 72 (0, 0)) (bk BK256) hg (Kd.R_ne HO_260000.out BK256.out (by decide))); have n1_ := Aside0.mk (blk_grown (g := gb259) (o := .cells #[u260000, .bool (t257 == 0)] 72 (0, 0)) (bk BK259) hg (Kd.R_ne HO_260000.out BK259.out (by decide))); have n2_ := Aside0.mk (IsS133.grown (by repeat (first | (with_reducible first | exact HI0.out | apply IsS133.alloc | apply IsS133.drewN | apply IsS133.drew | apply IsS133.set_1 | refine IsS133.far ?_ NB0_256.out _ | refine IsS133.far ?_ NB0_259.out _) | exact HI0.out)) hg (IsS133.own_ne HI0.out HO_260000.out (by decide))); have n3_ := Aside0.mk (below_weaken (by repeat (first | (with_reducible first | exact HB.out | apply below_alloc | apply pw_below_drewN | apply below_drew1 | refine below_set ?_ (IsS133.ge HI0.out) | refine below_set ?_ GE256.out | refine below_set ?_ GE259.out) | exact HB.out)) HL.out hb); have n4_ := Aside0.mk (KeepBut.trans (by repeat (first | (with_reducible first | exact HK.out | apply KeepBut.set_ | apply keep_drewN | apply keep_drew | apply keep_alloc | refine keep_far ?_ GW256.out _ | refine keep_far ?_ GW259.out _) | exact HK.out)) (KeepBut.of_grown hg g) (Kd.R_base2 HO_260000.out)); have n5_ := Aside0.mk (ho); clear BK256 BK259 HI0 HB HK HO_260000; have BK256 := n0_; have BK259 := n1_; have HI0 := n2_; have HB := n3_; have HK := n4_; have HO274 := n5_; clear n0_ n1_ n2_ n3_ n4_ n5_; clear ho hb hg hat; obtain ⟨Ao43, co43, eo43⟩ := Kd.R_slice HO274.out; subst eo43; have hcz44_0 : w42.cell? ⟨gb259, 0, none⟩ = some (u260000) := (blk_cell BK259.out 0).trans rfl; have hcz44_1 : w42.cell? ⟨gb259, 1, none⟩ = some (.bool (t257 == 0)) := (blk_cell BK259.out 1).trans rfl; have hfz44_0 := blk_frozen BK259.out 0; have hfz44_1 := blk_frozen BK259.out 1))
      go_roundg k1
      case measure => have := HK1.out; omega
      case rel => exact ⟨(wrap64 (x6_1 - 1)), (t263), (y272), (.slice Ao43 y272.length co43), (by first | rfl | (simp; done) | (simp [*]; done)), H', ⟨by have := HK1.out; omega⟩, ⟨by (with_reducible repeat (first | apply Kd.R_alloc | apply Kd.R_drewN | apply Kd.R_drew)); exact Kd.R_mono (Kd.R_far (p := ⟨gb259, 0, none⟩) (Kd.R_types HO274.out BK259.out (by decide)) (fun _ hk => by first | exact hk.2 | grind) (.slice Ao43 y272.length co43)) (fun _ hk => trivial)⟩, ⟨by (with_reducible repeat (first | refine blk_drewN ?_ _ | refine blk_drew ?_ | refine blk_alloc ?_ _)); refine blk_far ?_ NB256_259.out _; (with_reducible repeat (first | refine blk_drewN ?_ _ | refine blk_drew ?_ | refine blk_alloc ?_ _)); exact BK256.out⟩, ⟨by (with_reducible repeat (first | refine blk_drewN ?_ _ | refine blk_drew ?_ | refine blk_alloc ?_ _)); refine blk_put (cs := #[u260000, .bool (t257 == 0)]) ?_ 0 _ rfl; (with_reducible repeat (first | refine blk_drewN ?_ _ | refine blk_drew ?_ | refine blk_alloc ?_ _)); exact BK259.out⟩, ⟨by repeat (first | (with_reducible first | exact HI0.out | apply IsS133.alloc | apply IsS133.drewN | apply IsS133.drew | apply IsS133.set_1 | refine IsS133.far ?_ NB0_256.out _ | refine IsS133.far ?_ NB0_259.out _) | exact HI0.out)⟩, ⟨by repeat (first | (with_reducible first | exact HK.out | apply KeepBut.set_ | apply keep_drewN | apply keep_drew | apply keep_alloc | refine keep_far ?_ GW256.out _ | refine keep_far ?_ GW259.out _) | exact HK.out)⟩, ⟨by repeat (first | (with_reducible first | exact HB.out | apply below_alloc | apply pw_below_drewN | apply below_drew1 | refine below_set ?_ (IsS133.ge HI0.out) | refine below_set ?_ GE256.out | refine below_set ?_ GE259.out) | exact HB.out)⟩⟩
     ·rw [if_neg c37] at H
      exact absurd H (by simp)
   ·rw [if_neg c12] at H
    have c12b0 : decide (0 < x6_1) = false := decide_eq_false c12
    clear c12
    replace H := Option.bind_eq_some_iff.mp H
    obtain ⟨⟨t275, t276⟩, A450, H⟩ := H
    replace H : (if t275 = true then ((spec_l20Rd_pick.f k1 s0_0 t276 3).bind fun bt277 => (if bt277.1 = 0 then ((some (([0, 4, (-1)] : List Int) : List Int)).bind fun y279 => ((spec_l20Rd_pick.f k1 s0_0 bt277.2 3).bind fun bt282 => (if 0 ≤ bt282.1 then (if bt282.1 < (y279.length : Int) then (if 0 < (x260000_1.length : Int) then (some ((x260000_1.set (0 : Int).toNat (rd y279 bt282.1)), (t257 == 0), bt282.2)) else (none)) else (none)) else (none)))) else (if bt277.1 = 1 then (if 0 < (x260000_1.length : Int) then (some ((x260000_1.set (0 : Int).toNat 3), false, bt277.2)) else (none)) else (if 7 ≤ 35184372088832 then (some ((List.replicate 7 0), (t257 == 0), bt277.2)) else (none))))) else (some (x260000_1, (t257 == 0), t276))) = some (r1, r2, r3) := H
    have A45 := Aside0.mk A450
    clear A450
    by_cases c46 : t275 = true
    ·subst c46
     have H1 : ((spec_l20Rd_pick.f k1 s0_0 t276 3).bind fun bt277 => (if bt277.1 = 0 then ((some (([0, 4, (-1)] : List Int) : List Int)).bind fun y279 => ((spec_l20Rd_pick.f k1 s0_0 bt277.2 3).bind fun bt282 => (if 0 ≤ bt282.1 then (if bt282.1 < (y279.length : Int) then (if 0 < (x260000_1.length : Int) then (some ((x260000_1.set (0 : Int).toNat (rd y279 bt282.1)), (t257 == 0), bt282.2)) else (none)) else (none)) else (none)))) else (if bt277.1 = 1 then (if 0 < (x260000_1.length : Int) then (some ((x260000_1.set (0 : Int).toNat 3), false, bt277.2)) else (none)) else (if 7 ≤ 35184372088832 then (some ((List.replicate 7 0), (t257 == 0), bt277.2)) else (none))))) = some (r1, r2, r3) := by rw [if_pos rfl] at H; exact H
     clear H
     have H := H1
     clear H1
     replace H := Option.bind_eq_some_iff.mp H
     obtain ⟨⟨t277, t278⟩, A470, H⟩ := H
     replace H : (if t277 = 0 then ((some (([0, 4, (-1)] : List Int) : List Int)).bind fun y279 => ((spec_l20Rd_pick.f k1 s0_0 t278 3).bind fun bt282 => (if 0 ≤ bt282.1 then (if bt282.1 < (y279.length : Int) then (if 0 < (x260000_1.length : Int) then (some ((x260000_1.set (0 : Int).toNat (rd y279 bt282.1)), (t257 == 0), bt282.2)) else (none)) else (none)) else (none)))) else (if t277 = 1 then (if 0 < (x260000_1.length : Int) then (some ((x260000_1.set (0 : Int).toNat 3), false, t278)) else (none)) else (if 7 ≤ 35184372088832 then (some ((List.replicate 7 0), (t257 == 0), t278)) else (none)))) = some (r1, r2, r3) := H
     have A47 := Aside0.mk A470
     clear A470
     by_cases c48 : t277 = 0
     ·rw [if_pos c48] at H
      have c48b0 : (t277 == 0) = true := beq_iff_eq.mpr c48
      have c48b1 : (t277 != 0) = false := bne_eq_false_iff_eq.mpr c48
      clear c48
      obtain ⟨y279, hy279⟩ : ∃ y_ : List Int, y_ = (([0, 4, (-1)] : List Int)) := ⟨_, rfl⟩
      replace H : ((spec_l20Rd_pick.f k1 s0_0 t278 3).bind fun bt282 => (if 0 ≤ bt282.1 then (if bt282.1 < (y279.length : Int) then (if 0 < (x260000_1.length : Int) then (some ((x260000_1.set (0 : Int).toNat (rd y279 bt282.1)), (t257 == 0), bt282.2)) else (none)) else (none)) else (none))) = some (r1, r2, r3) := by first | (rw [hy279]; with_reducible exact H) | (have H2_ := (Option.bind_some _ _).symm.trans H; rw [hy279]; with_reducible exact H2_) | (have H2_ := (Option.bind_some _ _).symm.trans H; with_reducible exact H2_) | with_reducible exact H | (rw [hy279]; exact H) | exact H
      have Ny279 := Aside0.mk hy279
      clear hy279
      replace H := Option.bind_eq_some_iff.mp H
      obtain ⟨⟨t282, t283⟩, A490, H⟩ := H
      replace H : (if 0 ≤ t282 then (if t282 < (y279.length : Int) then (if 0 < (x260000_1.length : Int) then (some ((x260000_1.set (0 : Int).toNat (rd y279 t282)), (t257 == 0), t283)) else (none)) else (none)) else (none)) = some (r1, r2, r3) := H
      have A49 := Aside0.mk A490
      clear A490
      by_cases c50 : 0 ≤ t282
      ·rw [if_pos c50] at H
       have c50b0 : decide (0 ≤ t282) = true := decide_eq_true c50
       clear c50
       by_cases c51 : t282 < (y279.length : Int)
       ·rw [if_pos c51] at H
        have c51b0 : decide (t282 < (y279.length : Int)) = true := decide_eq_true c51
        clear c51
        by_cases c52 : 0 < (x260000_1.length : Int)
        ·rw [if_pos c52] at H
         have c52b0 : decide (0 < (x260000_1.length : Int)) = true := decide_eq_true c52
         have c52b1 : decide (0 < x260000_1.length) = true := decide_eq_true (by omega)
         clear c52
         obtain ⟨y285, hy285⟩ : ∃ y_ : List Int, y_ = (x260000_1.set (0 : Int).toNat (rd y279 t282)) := ⟨_, rfl⟩
         replace H : (some (y285, (t257 == 0), t283)) = some (r1, r2, r3) := by first | (rw [hy285]; with_reducible exact H) | (have H2_ := (Option.bind_some _ _).symm.trans H; rw [hy285]; with_reducible exact H2_) | (have H2_ := (Option.bind_some _ _).symm.trans H; with_reducible exact H2_) | with_reducible exact H | (rw [hy285]; exact H) | exact H
         have Ny285 := Aside0.mk hy285
         clear hy285
         simp only [Option.some.injEq, Prod.mk.injEq] at H
         obtain ⟨rfl, rfl, rfl⟩ := H
         try go_wp2_with (first | ((with_reducible refine gate_callee (f := 130) rfl ?_); refine goesL_ (some 37) rfl rfl Tryd.func130 (by kernel_rfl) rfl #[.pointer (some ⟨g, 0, none⟩), .int .i64 a1] rfl (by (try simp only [List.map_toArray, List.map_cons, List.map_nil]); first | done | rfl | (simp only [List.length_drop, List.length_take]; rfl)) ?_; (with_reducible refine (spec_l20Rd_odd.calls k1 g s0_0 x1001_1 a1 true t276 w0 _ ?side1 ?side2 A45.out).mono ?_); (case side1 => repeat (first | (with_reducible first | exact HI0.out | apply IsS133.alloc | apply IsS133.drewN | apply IsS133.drew | apply IsS133.set_1 | refine IsS133.far ?_ NB0_256.out _ | refine IsS133.far ?_ NB0_259.out _) | exact HI0.out)); (case side2 => repeat (first | (with_reducible first | exact HB.out | apply below_alloc | apply pw_below_drewN | apply below_drew1 | refine below_set ?_ (IsS133.ge HI0.out) | refine below_set ?_ GE256.out | refine below_set ?_ GE259.out) | exact HB.out)); rintro e w54 ⟨rfl, hi, hb, hk⟩; refine ⟨_, rfl, ?_⟩; have n0_ := Aside0.mk (Kd.R_mono (Kd.R_keep (IsS133.apart (show IsS133 w0 _ g s0_0 x1001_1 from by repeat (first | (with_reducible first | exact HI0.out | apply IsS133.alloc | apply IsS133.drewN | apply IsS133.drew | apply IsS133.set_1 | refine IsS133.far ?_ NB0_256.out _ | refine IsS133.far ?_ NB0_259.out _) | exact HI0.out)) (rk HO_260000) (by decide)) hk (fun _ h => h.2)) (fun _ h => h.1)); have n1_ := Aside0.mk (KeepBut.blk hk (g' := gb256) (o := .cells #[.slice none 0 0, .bool false] 72 (0, 0)) (bk BK256) NB256_0.out (by simp)); have n2_ := Aside0.mk (KeepBut.blk hk (g' := gb259) (o := .cells #[u260000, .bool (t257 == 0)] 72 (0, 0)) (bk BK259) NB259_0.out (by simp)); have n3_ := Aside0.mk (KeepBut.trans (by repeat (first | (with_reducible first | exact HK.out | apply KeepBut.set_ | apply keep_drewN | apply keep_drew | apply keep_alloc | refine keep_far ?_ GW256.out _ | refine keep_far ?_ GW259.out _) | exact HK.out)) hk (.inl rfl)); have n4_ := Aside0.mk (hb); have n5_ := Aside0.mk (hi); clear HO_260000 BK256 BK259 HK HB HI0; have HO_260000 := n0_; have BK256 := n1_; have BK259 := n2_; have HK := n3_; have HB := n4_; have HI0 := n5_; clear n0_ n1_ n2_ n3_ n4_ n5_; (try clear hb); (try clear hb2); (try clear hk); (try clear hi)) | ((with_reducible refine gate_callee (f := 80) rfl ?_); refine goesL_ (some 39) rfl rfl Tryd.func80 (by kernel_rfl) rfl #[.pointer (some ⟨g, 0, none⟩), .int .i64 3] rfl (by (try simp only [List.map_toArray, List.map_cons, List.map_nil]); first | done | rfl | (simp only [List.length_drop, List.length_take]; rfl)) ?_; (with_reducible refine (spec_l20Rd_pick.calls k1 g s0_0 t276 3 t277 t278 w0 _ ?side1 ?side2 A47.out).mono ?_); (case side1 => repeat (first | (with_reducible first | exact HI0.out | apply IsS133.alloc | apply IsS133.drewN | apply IsS133.drew | apply IsS133.set_1 | refine IsS133.far ?_ NB0_256.out _ | refine IsS133.far ?_ NB0_259.out _) | exact HI0.out)); (case side2 => repeat (first | (with_reducible first | exact HB.out | apply below_alloc | apply pw_below_drewN | apply below_drew1 | refine below_set ?_ (IsS133.ge HI0.out) | refine below_set ?_ GE256.out | refine below_set ?_ GE259.out) | exact HB.out)); rintro e w55 ⟨rfl, hi, hb, hk⟩; refine ⟨_, rfl, ?_⟩; have n0_ := Aside0.mk (Kd.R_mono (Kd.R_keep (IsS133.apart (show IsS133 w0 _ g s0_0 t276 from by repeat (first | (with_reducible first | exact HI0.out | apply IsS133.alloc | apply IsS133.drewN | apply IsS133.drew | apply IsS133.set_1 | refine IsS133.far ?_ NB0_256.out _ | refine IsS133.far ?_ NB0_259.out _) | exact HI0.out)) (rk HO_260000) (by decide)) hk (fun _ h => h.2)) (fun _ h => h.1)); have n1_ := Aside0.mk (KeepBut.blk hk (g' := gb256) (o := .cells #[.slice none 0 0, .bool false] 72 (0, 0)) (bk BK256) NB256_0.out (by simp)); have n2_ := Aside0.mk (KeepBut.blk hk (g' := gb259) (o := .cells #[u260000, .bool (t257 == 0)] 72 (0, 0)) (bk BK259) NB259_0.out (by simp)); have n3_ := Aside0.mk (KeepBut.trans (by repeat (first | (with_reducible first | exact HK.out | apply KeepBut.set_ | apply keep_drewN | apply keep_drew | apply keep_alloc | refine keep_far ?_ GW256.out _ | refine keep_far ?_ GW259.out _) | exact HK.out)) hk (.inl rfl)); have n4_ := Aside0.mk (hb); have n5_ := Aside0.mk (hi); clear HO_260000 BK256 BK259 HK HB HI0; have HO_260000 := n0_; have BK256 := n1_; have BK259 := n2_; have HK := n3_; have HB := n4_; have HI0 := n5_; clear n0_ n1_ n2_ n3_ n4_ n5_; (try clear hb); (try clear hb2); (try clear hk); (try clear hi)))
         have pi284 : (0 ≤ (t282 : Int)) = True := eq_true (of_decide_eq_true (by first | (with_reducible assumption) | assumption))
         have qi284 : (t282 < (y279.length : Int)) = True := eq_true (of_decide_eq_true (by first | (with_reducible assumption) | assumption))
         have n0_ := Aside0.mk (Kd.R_drew HO_260000.out)
         have n1_ := Aside0.mk (blk_drew BK256.out)
         have n2_ := Aside0.mk (blk_drew BK259.out)
         have n3_ := Aside0.mk (IsS133.drew HI0.out)
         have n4_ := Aside0.mk (keep_drew HK.out)
         have n5_ := Aside0.mk (below_drew1 HB.out)
         clear HO_260000
         clear BK256
         clear BK259
         clear HI0
         clear HK
         clear HB
         have HO_260000 := n0_
         have BK256 := n1_
         have BK259 := n2_
         have HI0 := n3_
         have HK := n4_
         have HB := n5_
         clear n0_ n1_ n2_ n3_ n4_ n5_
         refine start_ (n := 9) (S := fun w' => w'.cell? ⟨gb259, 0, none⟩ = some (u260000) ∧ w'.cell? ⟨gb259, 1, none⟩ = some (.bool (t257 == 0))) (ds := [8]) (bz 9 0) (by kernel_rfl) rfl rfl ⟨(blk_cell BK259.out 0).trans rfl, (blk_cell BK259.out 1).trans rfl⟩ (fun hHeld => ?_); refine with_tabW spec_l20Bars.tab13 spec_l20Bars.bits13 (fun HT_ HW_ => ?_)
         generalize w55.drew = w56 at HO_260000 BK256 BK259 HI0 HK HB hHeld ⊢
         refine pure_ (i := 0) (N := some 44) (v := ?_) (a' := ?_) (bz 9 1) rfl rfl (any_of HT_.out (by kernel_rfl)) (fun _ _ _ h => h) (Or.inl ⟨by rfl, ?_⟩) ?_ ?_
         rotate_left
         ·intro w'
          go_simp
          with_reducible rfl
         rotate_left
         ·simp only [Act.put, List.setIfInBounds_toArray, List.set_cons_zero, List.set_cons_succ, i64_w, i32_w]
          rfl
         refine pure_ (i := 3) (N := some 47) (v := ?_) (a' := ?_) (bz 9 9) rfl rfl (any_of HT_.out (by kernel_rfl)) (fun _ _ _ h => h) (Or.inl ⟨by rfl, ?_⟩) ?_ ?_
         rotate_left
         ·intro w'
          go_simp
          with_reducible rfl
         rotate_left
         ·simp only [Act.put, List.setIfInBounds_toArray, List.set_cons_zero, List.set_cons_succ, i64_w, i32_w]
          rfl
         refine take_ (i := 1) (N := some 45) (v := ?_) (a' := ?_) (bz 9 11) rfl rfl (take_ofW HT_.out HW_.out (by kernel_rfl)) (fun _ _ _ h => h) (Or.inl ⟨by rfl, ?_⟩) hHeld ?_ ?_
         rotate_left
         ·rintro w' ⟨s0, s1⟩
          go_simp
          with_reducible rfl
         rotate_left
         ·simp only [Act.put, List.setIfInBounds_toArray, List.set_cons_zero, List.set_cons_succ, i64_w, i32_w]
          rfl
         refine join_ (σ := Value × Addr) 4 (bz 9 31) (fun s_ => [(46, s_.1), (48, .int .i64 t282)]) (fun s_ w' => (w'.cell? ⟨gb259, 0, none⟩ = some (u260000) ∧ w'.cell? ⟨gb259, 1, none⟩ = some (.bool (t257 == 0))) ∧ (Kd.R (Kd.int .i64) 3 w' w.heap.size (fun k_ => some k_ ≠ (u260000 : Value).ownBlock) s_.1 y279) ∧ (Kd.R (Kd.int .i64) 3 w' w.heap.size (fun k_ => some k_ ≠ (s_.1 : Value).ownBlock) u260000 x260000_1) ∧ (∃ c_, (s_.1 : Value) = .slice (some s_.2) y279.length c_) ∧ (w'.heap[gb256]? = some (.cells #[.slice none 0 0, .bool false] 72 (0, 0))) ∧ (w'.heap[gb259]? = some (.cells #[u260000, .bool (t257 == 0)] 72 (0, 0))) ∧ (IsS133 w0 w' g s0_0 t283) ∧ (KeepBut w w' g none) ∧ (Below w0.heap.size w0 w')) ?_ ?_
         rotate_left
         ·intro hCont
          refine two_ (i := 2) (j := 4) (Ni := some 46) (Nj := some 48) (bz 9 15) (bz 9 27) rfl rfl rfl rfl (two_of HT_.out (by kernel_rfl)) (by decide) (by decide) (fun K hK => ?_) (fun K hK => ?_)
          ·skip
           refine Kd.R_lit_step (Kd.int .i64) _ 3 ?hg (N := 46) ?hd (xs := ([0, 4, (-1)] : List Int)) (inner := [.int .i64 0, .int .i64 4, .int .i64 (-1)]) (ok := fun _ => True) (okp := fun _ => True) ?hr ?hp (fun _ hk => by first | exact hk | grind) trivial (Below.refl _ _) (Nat.le_refl _) (by simp) ?_; (case hd => rfl); (case hg => rfl); (case hr => first | (go_simp; done) | (go_simp; rfl)); (case hp => exact (Reps.one (show Kd.M (Kd.int .i64) _ _ _ 0 [.int .i64 0] from rfl) (Reps.one (show Kd.M (Kd.int .i64) _ _ _ 4 [.int .i64 4] from rfl) (Reps.one (show Kd.M (Kd.int .i64) _ _ _ (-1) [.int .i64 (-1)] from rfl) (Reps.none _ _)))))
           intro v280 w57 ho58 hb hg_ hnew_
           clear hg_ hnew_
           (first | rw [← Ny279.out] at ho58 | (simp only [Int.reduceToNat] at ho58; rw [← Ny279.out] at ho58))
           have n0_ := Aside0.mk (Kd.R_elder' (rk HO_260000) (Kd.R_base ho58) hb)
           have n1_ := Aside0.mk (Kd.R_lower (Kd.R_new' ho58 (Kd.R_lt (rk HO_260000))) (keep_size (w := w) (g := g) (row := none) (by repeat (first | (with_reducible first | exact HK.out | apply KeepBut.set_ | apply keep_drewN | apply keep_drew | apply keep_alloc | refine keep_far ?_ GW256.out _ | refine keep_far ?_ GW259.out _) | exact HK.out))))
           have n2_ := bkB BK256 hb
           have n3_ := bkB BK259 hb
           have n4_ := Aside0.mk (IsS133.below (by repeat (first | (with_reducible first | exact HI0.out | apply IsS133.alloc | apply IsS133.drewN | apply IsS133.drew | apply IsS133.set_1 | refine IsS133.far ?_ NB0_256.out _ | refine IsS133.far ?_ NB0_259.out _) | exact HI0.out)) hb)
           have n5_ := Aside0.mk (KeepBut.trans (by repeat (first | (with_reducible first | exact HK.out | apply KeepBut.set_ | apply keep_drewN | apply keep_drew | apply keep_alloc | refine keep_far ?_ GW256.out _ | refine keep_far ?_ GW259.out _) | exact HK.out)) (KeepBut.of_below hb g none) (.inl rfl))
           have n6_ := Aside0.mk (below_step (by repeat (first | (with_reducible first | exact HB.out | apply below_alloc | apply pw_below_drewN | apply below_drew1 | refine below_set ?_ (IsS133.ge HI0.out) | refine below_set ?_ GE256.out | refine below_set ?_ GE259.out) | exact HB.out)) hb)
           clear HO_260000
           clear BK256
           clear BK259
           clear HI0
           clear HK
           clear HB
           have HO_260000 := n0_
           have HO281 := n1_
           have BK256 := n2_
           have BK259 := n3_
           have HI0 := n4_
           have HK := n5_
           have HB := n6_
           clear n0_ n1_ n2_ n3_ n4_ n5_ n6_
           clear hb ho58
           obtain ⟨Ao59, co59, eo59⟩ := Kd.R_slice HO281.out
           subst eo59
           obtain ⟨ado59, fo59, _⟩ := Kd.at_int (Kd.R_reads' HO281.out).2.2 0 (by decide) (by rw [Ny279.out]; simp)
           cases fo59
           refine hK.out _ _ ⟨(blk_cell BK259.out 0).trans rfl, (blk_cell BK259.out 1).trans rfl⟩ (fun hHeld => ?_)
           clear hK K
           refine norm_ (a' := ?_) ?_ ?_
           rotate_left
           ·show Act.put _ (some 46) _ = _
            simp only [Act.put, List.setIfInBounds_toArray, List.set_cons_zero, List.set_cons_succ, i64_w, i32_w]
            rfl
           refine one_ (i := 4) (N := some 48) (bz 9 31) rfl rfl (one_of HT_.out (by kernel_rfl)) (by decide) (fun K hK => ?_)
           refine goes_ Tryd.func80 (by kernel_rfl) rfl #[.pointer (some ⟨g, 0, none⟩), .int .i64 3] (by rfl) rfl rfl (by (try simp only [List.map_toArray, List.map_cons, List.map_nil]); first | done | rfl | (simp only [List.length_drop, List.length_take]; rfl)) ?_
           with_reducible refine (spec_l20Rd_pick.calls k1 g s0_0 t278 3 t282 t283 w0 _ ?side1 ?side2 A49.out).mono ?_
           (case side1 => repeat (first | (with_reducible first | exact HI0.out | apply IsS133.alloc | apply IsS133.drewN | apply IsS133.drew | apply IsS133.set_1 | refine IsS133.far ?_ NB0_256.out _ | refine IsS133.far ?_ NB0_259.out _) | exact HI0.out))
           (case side2 => repeat (first | (with_reducible first | exact HB.out | apply below_alloc | apply pw_below_drewN | apply below_drew1 | refine below_set ?_ (IsS133.ge HI0.out) | refine below_set ?_ GE256.out | refine below_set ?_ GE259.out) | exact HB.out))
           rintro e w60 ⟨rfl, hi, hb, hk⟩
           refine ⟨_, rfl, ?_⟩
           have n0_ := Aside0.mk (Kd.R_mono (Kd.R_keep (IsS133.apart (show IsS133 w0 _ g s0_0 t278 from by repeat (first | (with_reducible first | exact HI0.out | apply IsS133.alloc | apply IsS133.drewN | apply IsS133.drew | apply IsS133.set_1 | refine IsS133.far ?_ NB0_256.out _ | refine IsS133.far ?_ NB0_259.out _) | exact HI0.out)) (rk HO_260000) (by decide)) hk (fun _ h => h.2)) (fun _ h => h.1))
           have n1_ := Aside0.mk (KeepBut.blk hk (g' := gb256) (o := .cells #[.slice none 0 0, .bool false] 72 (0, 0)) (bk BK256) NB256_0.out (by simp))
           have n2_ := Aside0.mk (KeepBut.blk hk (g' := gb259) (o := .cells #[u260000, .bool (t257 == 0)] 72 (0, 0)) (bk BK259) NB259_0.out (by simp))
           have n3_ := Aside0.mk (Kd.R_mono (Kd.R_keep (IsS133.apart (show IsS133 w0 _ g s0_0 t278 from by repeat (first | (with_reducible first | exact HI0.out | apply IsS133.alloc | apply IsS133.drewN | apply IsS133.drew | apply IsS133.set_1 | refine IsS133.far ?_ NB0_256.out _ | refine IsS133.far ?_ NB0_259.out _) | exact HI0.out)) (rk HO281) (by decide)) hk (fun _ h => h.2)) (fun _ h => h.1))
           have n4_ := Aside0.mk (KeepBut.trans (by repeat (first | (with_reducible first | exact HK.out | apply KeepBut.set_ | apply keep_drewN | apply keep_drew | apply keep_alloc | refine keep_far ?_ GW256.out _ | refine keep_far ?_ GW259.out _) | exact HK.out)) hk (.inl rfl))
           have n5_ := Aside0.mk (hb)
           have n6_ := Aside0.mk (hi)
           clear HO_260000
           clear BK256
           clear BK259
           clear HO281
           clear HK
           clear HB
           clear HI0
           have HO_260000 := n0_
           have BK256 := n1_
           have BK259 := n2_
           have HO281 := n3_
           have HK := n4_
           have HB := n5_
           have HI0 := n6_
           clear n0_ n1_ n2_ n3_ n4_ n5_ n6_
           (try clear hb)
           (try clear hb2)
           (try clear hk)
           (try clear hi)
           refine hK.out _ _ ⟨(blk_cell BK259.out 0).trans rfl, (blk_cell BK259.out 1).trans rfl⟩ (fun hHeld => ?_)
           clear hK K
           refine norm_ (a' := ?_) ?_ ?_
           rotate_left
           ·show Act.put _ (some 48) _ = _
            simp only [Act.put, List.setIfInBounds_toArray, List.set_cons_zero, List.set_cons_succ, i64_w, i32_w]
            rfl
           exact norm_ (by simp only [putAll, Act.put, List.setIfInBounds_toArray, List.set_cons_zero, List.set_cons_succ]) (hCont (.slice (some ado59) y279.length co59, ado59) _ ⟨hHeld, (by (with_reducible repeat (first | apply Kd.R_alloc | apply Kd.R_drewN | apply Kd.R_drew)); exact Kd.R_mono HO281.out (fun _ hk => by first | exact hk.2 | grind)), (by (with_reducible repeat (first | apply Kd.R_alloc | apply Kd.R_drewN | apply Kd.R_drew)); exact Kd.R_mono HO_260000.out (fun _ hk => by first | exact hk.2 | grind)), ⟨_, rfl⟩, (bk BK256), (bk BK259), (by repeat (first | (with_reducible first | exact HI0.out | apply IsS133.alloc | apply IsS133.drewN | apply IsS133.drew | apply IsS133.set_1 | refine IsS133.far ?_ NB0_256.out _ | refine IsS133.far ?_ NB0_259.out _) | exact HI0.out)), (by repeat (first | (with_reducible first | exact HK.out | apply KeepBut.set_ | apply keep_drewN | apply keep_drew | apply keep_alloc | refine keep_far ?_ GW256.out _ | refine keep_far ?_ GW259.out _) | exact HK.out)), (by repeat (first | (with_reducible first | exact HB.out | apply below_alloc | apply pw_below_drewN | apply below_drew1 | refine below_set ?_ (IsS133.ge HI0.out) | refine below_set ?_ GE256.out | refine below_set ?_ GE259.out) | exact HB.out))⟩)
          ·skip
           refine goes_ Tryd.func80 (by kernel_rfl) rfl #[.pointer (some ⟨g, 0, none⟩), .int .i64 3] (by rfl) rfl rfl (by (try simp only [List.map_toArray, List.map_cons, List.map_nil]); first | done | rfl | (simp only [List.length_drop, List.length_take]; rfl)) ?_
           with_reducible refine (spec_l20Rd_pick.calls k1 g s0_0 t278 3 t282 t283 w0 _ ?side1 ?side2 A49.out).mono ?_
           (case side1 => repeat (first | (with_reducible first | exact HI0.out | apply IsS133.alloc | apply IsS133.drewN | apply IsS133.drew | apply IsS133.set_1 | refine IsS133.far ?_ NB0_256.out _ | refine IsS133.far ?_ NB0_259.out _) | exact HI0.out))
           (case side2 => repeat (first | (with_reducible first | exact HB.out | apply below_alloc | apply pw_below_drewN | apply below_drew1 | refine below_set ?_ (IsS133.ge HI0.out) | refine below_set ?_ GE256.out | refine below_set ?_ GE259.out) | exact HB.out))
           rintro e w57 ⟨rfl, hi, hb, hk⟩
           refine ⟨_, rfl, ?_⟩
           have n0_ := Aside0.mk (Kd.R_mono (Kd.R_keep (IsS133.apart (show IsS133 w0 _ g s0_0 t278 from by repeat (first | (with_reducible first | exact HI0.out | apply IsS133.alloc | apply IsS133.drewN | apply IsS133.drew | apply IsS133.set_1 | refine IsS133.far ?_ NB0_256.out _ | refine IsS133.far ?_ NB0_259.out _) | exact HI0.out)) (rk HO_260000) (by decide)) hk (fun _ h => h.2)) (fun _ h => h.1))
           have n1_ := Aside0.mk (KeepBut.blk hk (g' := gb256) (o := .cells #[.slice none 0 0, .bool false] 72 (0, 0)) (bk BK256) NB256_0.out (by simp))
           have n2_ := Aside0.mk (KeepBut.blk hk (g' := gb259) (o := .cells #[u260000, .bool (t257 == 0)] 72 (0, 0)) (bk BK259) NB259_0.out (by simp))
           have n3_ := Aside0.mk (KeepBut.trans (by repeat (first | (with_reducible first | exact HK.out | apply KeepBut.set_ | apply keep_drewN | apply keep_drew | apply keep_alloc | refine keep_far ?_ GW256.out _ | refine keep_far ?_ GW259.out _) | exact HK.out)) hk (.inl rfl))
           have n4_ := Aside0.mk (hb)
           have n5_ := Aside0.mk (hi)
           clear HO_260000
           clear BK256
           clear BK259
           clear HK
           clear HB
           clear HI0
           have HO_260000 := n0_
           have BK256 := n1_
           have BK259 := n2_
           have HK := n3_
           have HB := n4_
           have HI0 := n5_
           clear n0_ n1_ n2_ n3_ n4_ n5_
           (try clear hb)
           (try clear hb2)
           (try clear hk)
           (try clear hi)
           refine hK.out _ _ ⟨(blk_cell BK259.out 0).trans rfl, (blk_cell BK259.out 1).trans rfl⟩ (fun hHeld => ?_)
           clear hK K
           refine norm_ (a' := ?_) ?_ ?_
           rotate_left
           ·show Act.put _ (some 48) _ = _
            simp only [Act.put, List.setIfInBounds_toArray, List.set_cons_zero, List.set_cons_succ, i64_w, i32_w]
            rfl
           refine one_ (i := 2) (N := some 46) (bz 9 31) rfl rfl (one_of HT_.out (by kernel_rfl)) (by decide) (fun K hK => ?_)
           refine Kd.R_lit_step (Kd.int .i64) _ 3 ?hg (N := 46) ?hd (xs := ([0, 4, (-1)] : List Int)) (inner := [.int .i64 0, .int .i64 4, .int .i64 (-1)]) (ok := fun _ => True) (okp := fun _ => True) ?hr ?hp (fun _ hk => by first | exact hk | grind) trivial (Below.refl _ _) (Nat.le_refl _) (by simp) ?_; (case hd => rfl); (case hg => rfl); (case hr => first | (go_simp; done) | (go_simp; rfl)); (case hp => exact (Reps.one (show Kd.M (Kd.int .i64) _ _ _ 0 [.int .i64 0] from rfl) (Reps.one (show Kd.M (Kd.int .i64) _ _ _ 4 [.int .i64 4] from rfl) (Reps.one (show Kd.M (Kd.int .i64) _ _ _ (-1) [.int .i64 (-1)] from rfl) (Reps.none _ _)))))
           intro v280 w58 ho59 hb hg_ hnew_
           clear hg_ hnew_
           (first | rw [← Ny279.out] at ho59 | (simp only [Int.reduceToNat] at ho59; rw [← Ny279.out] at ho59))
           have n0_ := Aside0.mk (Kd.R_elder' (rk HO_260000) (Kd.R_base ho59) hb)
           have n1_ := Aside0.mk (Kd.R_lower (Kd.R_new' ho59 (Kd.R_lt (rk HO_260000))) (keep_size (w := w) (g := g) (row := none) (by repeat (first | (with_reducible first | exact HK.out | apply KeepBut.set_ | apply keep_drewN | apply keep_drew | apply keep_alloc | refine keep_far ?_ GW256.out _ | refine keep_far ?_ GW259.out _) | exact HK.out))))
           have n2_ := bkB BK256 hb
           have n3_ := bkB BK259 hb
           have n4_ := Aside0.mk (IsS133.below (by repeat (first | (with_reducible first | exact HI0.out | apply IsS133.alloc | apply IsS133.drewN | apply IsS133.drew | apply IsS133.set_1 | refine IsS133.far ?_ NB0_256.out _ | refine IsS133.far ?_ NB0_259.out _) | exact HI0.out)) hb)
           have n5_ := Aside0.mk (KeepBut.trans (by repeat (first | (with_reducible first | exact HK.out | apply KeepBut.set_ | apply keep_drewN | apply keep_drew | apply keep_alloc | refine keep_far ?_ GW256.out _ | refine keep_far ?_ GW259.out _) | exact HK.out)) (KeepBut.of_below hb g none) (.inl rfl))
           have n6_ := Aside0.mk (below_step (by repeat (first | (with_reducible first | exact HB.out | apply below_alloc | apply pw_below_drewN | apply below_drew1 | refine below_set ?_ (IsS133.ge HI0.out) | refine below_set ?_ GE256.out | refine below_set ?_ GE259.out) | exact HB.out)) hb)
           clear HO_260000
           clear BK256
           clear BK259
           clear HI0
           clear HK
           clear HB
           have HO_260000 := n0_
           have HO281 := n1_
           have BK256 := n2_
           have BK259 := n3_
           have HI0 := n4_
           have HK := n5_
           have HB := n6_
           clear n0_ n1_ n2_ n3_ n4_ n5_ n6_
           clear hb ho59
           obtain ⟨Ao60, co60, eo60⟩ := Kd.R_slice HO281.out
           subst eo60
           obtain ⟨ado60, fo60, _⟩ := Kd.at_int (Kd.R_reads' HO281.out).2.2 0 (by decide) (by rw [Ny279.out]; simp)
           cases fo60
           refine hK.out _ _ ⟨(blk_cell BK259.out 0).trans rfl, (blk_cell BK259.out 1).trans rfl⟩ (fun hHeld => ?_)
           clear hK K
           refine norm_ (a' := ?_) ?_ ?_
           rotate_left
           ·show Act.put _ (some 46) _ = _
            simp only [Act.put, List.setIfInBounds_toArray, List.set_cons_zero, List.set_cons_succ, i64_w, i32_w]
            rfl
           exact norm_ (by simp only [putAll, Act.put, List.setIfInBounds_toArray, List.set_cons_zero, List.set_cons_succ]) (hCont (.slice (some ado60) y279.length co60, ado60) _ ⟨hHeld, (by (with_reducible repeat (first | apply Kd.R_alloc | apply Kd.R_drewN | apply Kd.R_drew)); exact Kd.R_mono HO281.out (fun _ hk => by first | exact hk.2 | grind)), (by (with_reducible repeat (first | apply Kd.R_alloc | apply Kd.R_drewN | apply Kd.R_drew)); exact Kd.R_mono HO_260000.out (fun _ hk => by first | exact hk.2 | grind)), ⟨_, rfl⟩, (bk BK256), (bk BK259), (by repeat (first | (with_reducible first | exact HI0.out | apply IsS133.alloc | apply IsS133.drewN | apply IsS133.drew | apply IsS133.set_1 | refine IsS133.far ?_ NB0_256.out _ | refine IsS133.far ?_ NB0_259.out _) | exact HI0.out)), (by repeat (first | (with_reducible first | exact HK.out | apply KeepBut.set_ | apply keep_drewN | apply keep_drew | apply keep_alloc | refine keep_far ?_ GW256.out _ | refine keep_far ?_ GW259.out _) | exact HK.out)), (by repeat (first | (with_reducible first | exact HB.out | apply below_alloc | apply pw_below_drewN | apply below_drew1 | refine below_set ?_ (IsS133.ge HI0.out) | refine below_set ?_ GE256.out | refine below_set ?_ GE259.out) | exact HB.out))⟩)
         rintro ⟨v280, adz_v280⟩ w61 ⟨hS_, h0_, h1_, h2_, h3_, h4_, h5_, h6_, h7_⟩
         have n0_ : Aside0 (Kd.R (Kd.int .i64) 3 w61 w.heap.size (fun k_ => some k_ ≠ (u260000 : Value).ownBlock) v280 y279) := ⟨h0_⟩
         have n1_ : Aside0 (Kd.R (Kd.int .i64) 3 w61 w.heap.size (fun k_ => some k_ ≠ (v280 : Value).ownBlock) u260000 x260000_1) := ⟨h1_⟩
         have n2_ : Aside0 (∃ c_, (v280 : Value) = .slice (some adz_v280) y279.length c_) := ⟨h2_⟩
         have n3_ : Aside0 (w61.heap[gb256]? = some (.cells #[.slice none 0 0, .bool false] 72 (0, 0))) := ⟨h3_⟩
         have n4_ : Aside0 (w61.heap[gb259]? = some (.cells #[u260000, .bool (t257 == 0)] 72 (0, 0))) := ⟨h4_⟩
         have n5_ : Aside0 (IsS133 w0 w61 g s0_0 t283) := ⟨h5_⟩
         have n6_ : Aside0 (KeepBut w w61 g none) := ⟨h6_⟩
         have n7_ : Aside0 (Below w0.heap.size w0 w61) := ⟨h7_⟩
         clear HO_260000
         clear BK256
         clear BK259
         clear HI0
         clear HK
         clear HB
         clear h0_ h1_ h2_ h3_ h4_ h5_ h6_ h7_
         have HO281 := n0_
         have HO_260000 := n1_
         have HA_HO281 := n2_
         have BK256 := n3_
         have BK259 := n4_
         have HI0 := n5_
         have HK := n6_
         have HB := n7_
         clear n0_ n1_ n2_ n3_ n4_ n5_ n6_ n7_
         have hHeld : w61.cell? ⟨gb259, 0, none⟩ = some (u260000) ∧ w61.cell? ⟨gb259, 1, none⟩ = some (.bool (t257 == 0)) := hS_
         obtain ⟨co62, eo62⟩ := HA_HO281.out
         clear HA_HO281
         subst eo62
         have p53 : 0 ≤ (0 : Int) := (by omega)
         have q53 : (0 : Int) < ((x260000_1.length : Int) : Int) := of_decide_eq_true (by first | (with_reducible assumption) | assumption)
         have qi53 : (0 < x260000_1.length) = True := eq_true (by omega)
         obtain ⟨go53, co53, eo53, gb53, gl53, cl53, HG53⟩ := Kd.R_form HO_260000.out (by omega)
         (first | cases eo53 | (injection eo53 with ea_ en_ ec_; (first | subst ea_ | (injection ea_ with ea_; subst ea_)); subst ec_; clear en_))
         have GB53 := Aside0.mk gb53
         have GG53 := Aside0.mk HG53
         clear gb53 gl53 HG53
         obtain ⟨hx53_0, hf53_0⟩ := Kd.R_celln 0 HO_260000.out (0 : Int) p53 q53
         (try rw [show ((0 : Int)).toNat = 0 from rfl] at hx53_0)
         (try simp only [Nat.reduceMul, Nat.zero_mul, Nat.zero_add, Nat.reduceAdd] at hx53_0)
         (try rw [show ((0 : Int)).toNat = 0 from rfl] at hf53_0)
         (try simp only [Nat.reduceMul, Nat.zero_mul, Nat.zero_add, Nat.reduceAdd] at hf53_0)
         replace p53 := eq_true p53
         replace q53 := eq_true q53
         have HN0_go53 := Aside0.mk (show g ≠ go53 from by have h_ := IsS133.own_ne HI0.out HO_260000.out (by decide); intro e_; exact h_ (by rw [e_]; rfl))
         have HP63 := Kd.R_putn HO_260000.out (0 : Int) (rd y279 t282)
         rw [← Ny285.out] at HP63
         have HQ63 := Aside0.mk HP63
         clear HP63
         refine norm_ (a' := ?_) ?_ ?_
         rotate_left
         ·simp only [putAll, Act.put, List.setIfInBounds_toArray, List.set_cons_zero, List.set_cons_succ]
          rfl
         refine pure_ (i := 5) (N := some 49) (v := ?_) (a' := ?_) (bz 9 63) rfl rfl (any_of HT_.out (by kernel_rfl)) (fun _ _ _ h => h) (Or.inl ⟨by rfl, ?_⟩) ?_ ?_
         rotate_left
         ·intro w'
          go_simp
          with_reducible rfl
         rotate_left
         ·simp only [Act.put, List.setIfInBounds_toArray, List.set_cons_zero, List.set_cons_succ, i64_w, i32_w]
          rfl
         refine one_ (i := 6) (N := some 50) (bz 9 127) rfl rfl (one_of HT_.out (by kernel_rfl)) (by decide) (fun K hK => ?_)
         (have p284 : 0 ≤ (t282 : Int) := of_decide_eq_true (by first | (with_reducible assumption) | assumption); have q284 : t282 < (y279.length : Int) := of_decide_eq_true (by first | (with_reducible assumption) | assumption); obtain ⟨ad284, e284, hx284_0⟩ := Kd.at_int (Kd.R_reads' HO281.out).2.2 t282 p284 q284; obtain rfl : adz_v280 = ad284 := (by injection e284))
         refine value_ (w1 := ?_) (v := ?_) (by rfl) rfl ?_ ?_
         rotate_left 2
         ·go_simp
          constructor
          ·rfl
          ·rfl
         clear hx284_0
         refine hK.out _ _ ⟨(blk_cell BK259.out 0).trans rfl, (blk_cell BK259.out 1).trans rfl⟩ (fun hHeld => ?_)
         clear hK K
         refine norm_ (a' := ?_) ?_ ?_
         rotate_left
         ·show Act.put _ (some 50) _ = _
          simp only [Act.put, List.setIfInBounds_toArray, List.set_cons_zero, List.set_cons_succ, i64_w, i32_w]
          rfl
         refine pure_ (i := 7) (N := some 51) (v := ?_) (a' := ?_) (bz 9 255) rfl rfl (any_of HT_.out (by kernel_rfl)) (fun _ _ _ h => h) (Or.inl ⟨by rfl, ?_⟩) ?_ ?_
         rotate_left
         ·intro w'
          go_simp
          with_reducible rfl
         rotate_left
         ·simp only [Act.put, List.setIfInBounds_toArray, List.set_cons_zero, List.set_cons_succ, i64_w, i32_w]
          rfl
         refine last_ (i := 8) (N := none) (bz 9 511) rfl rfl (one_of HT_.out (by kernel_rfl)) (by decide) (fun K hK => ?_)
         refine skip_ (w1 := ?_) (by rfl) rfl ?_ ?_
         rotate_left
         ·go_simp
          rfl
         refine hK.out _ _ ?_
         clear hK K
         refine done_ (done_of HT_.out (by kernel_rfl)) ?_
         have n0_ : Aside0 (Kd.R (Kd.int .i64) 3 (w61.setCell ⟨go53, 0, none⟩ (.int .i64 (rd y279 t282))) w.heap.size (fun k_ => some k_ ≠ (.slice (some adz_v280) y279.length co62 : Value).ownBlock) (.slice (some ⟨go53, 0, none⟩) x260000_1.length co53) y285) := ⟨rk HQ63⟩
         have n1_ : Aside0 (Kd.R (Kd.int .i64) 3 (w61.setCell ⟨go53, 0, none⟩ (.int .i64 (rd y279 t282))) w.heap.size (fun k_ => some k_ ≠ (.slice (some ⟨go53, 0, none⟩) x260000_1.length co53 : Value).ownBlock) (.slice (some adz_v280) y279.length co62) y279) := ⟨by (with_reducible repeat (first | apply Kd.R_alloc | apply Kd.R_drewN | apply Kd.R_drew)); exact Kd.R_mono (Kd.R_far (p := ⟨go53, 0, none⟩) (Kd.R_mono HO281.out (fun k_ hk => (⟨hk, fun e_ => hk (by rw [e_]; rfl)⟩ : _ ∧ k_ ≠ go53))) (fun _ hk => by first | exact hk.2 | grind) (.int .i64 (rd y279 t282))) (fun _ hk => by first | exact hk.1 | grind)⟩
         have n2_ : Aside0 ((w61.setCell ⟨go53, 0, none⟩ (.int .i64 (rd y279 t282))).heap[gb256]? = some (.cells #[.slice none 0 0, .bool false] 72 (0, 0))) := ⟨by (with_reducible repeat (first | refine blk_drewN ?_ _ | refine blk_drew ?_ | refine blk_alloc ?_ _)); refine blk_far ?_ (by have h_ := Kd.R_ne HO_260000.out BK256.out (by decide); intro e_; exact h_ (by rw [e_]; rfl)) _; (with_reducible repeat (first | refine blk_drewN ?_ _ | refine blk_drew ?_ | refine blk_alloc ?_ _)); exact BK256.out⟩
         have n3_ : Aside0 ((w61.setCell ⟨go53, 0, none⟩ (.int .i64 (rd y279 t282))).heap[gb259]? = some (.cells #[.slice (some ⟨go53, 0, none⟩) x260000_1.length co53, .bool (t257 == 0)] 72 (0, 0))) := ⟨by (with_reducible repeat (first | refine blk_drewN ?_ _ | refine blk_drew ?_ | refine blk_alloc ?_ _)); refine blk_far ?_ (by have h_ := Kd.R_ne HO_260000.out BK259.out (by decide); intro e_; exact h_ (by rw [e_]; rfl)) _; (with_reducible repeat (first | refine blk_drewN ?_ _ | refine blk_drew ?_ | refine blk_alloc ?_ _)); exact BK259.out⟩
         have n4_ : Aside0 (IsS133 w0 (w61.setCell ⟨go53, 0, none⟩ (.int .i64 (rd y279 t282))) g s0_0 t283) := ⟨by repeat (first | (with_reducible first | exact HI0.out | apply IsS133.alloc | apply IsS133.drewN | apply IsS133.drew | apply IsS133.set_1 | refine IsS133.far ?_ HN0_go53.out _ | refine IsS133.far ?_ NB0_256.out _ | refine IsS133.far ?_ NB0_259.out _) | exact HI0.out)⟩
         have n5_ : Aside0 (KeepBut w (w61.setCell ⟨go53, 0, none⟩ (.int .i64 (rd y279 t282))) g none) := ⟨by repeat (first | (with_reducible first | exact HK.out | apply KeepBut.set_ | apply keep_drewN | apply keep_drew | apply keep_alloc | refine keep_far ?_ GB53.out _ | refine keep_far ?_ GW256.out _ | refine keep_far ?_ GW259.out _) | exact HK.out)⟩
         have n6_ : Aside0 (Below w0.heap.size w0 (w61.setCell ⟨go53, 0, none⟩ (.int .i64 (rd y279 t282)))) := ⟨by repeat (first | (with_reducible first | exact HB.out | apply below_alloc | apply pw_below_drewN | apply below_drew1 | refine below_set ?_ (Nat.le_trans HL.out GB53.out) | refine below_set ?_ (IsS133.ge HI0.out) | refine below_set ?_ GE256.out | refine below_set ?_ GE259.out) | exact HB.out)⟩
         (try clear HO_260000)
         (try clear HO281)
         (try clear BK256)
         (try clear BK259)
         (try clear HI0)
         (try clear HK)
         (try clear HB)
         generalize (w61.setCell ⟨go53, 0, none⟩ (.int .i64 (rd y279 t282))) = w64 at n0_ n1_ n2_ n3_ n4_ n5_ n6_ ⊢
         have HO_260000 := n0_
         have HO281 := n1_
         have BK256 := n2_
         have BK259 := n3_
         have HI0 := n4_
         have HK := n5_
         have HB := n6_
         clear n0_ n1_ n2_ n3_ n4_ n5_ n6_
         have hnb65 := NB259_256.out
         have hnc65 := NB256_259.out
         have hnb66 := NB259_0.out
         have hnc66 := NB0_259.out
         have hcz67_0 : w64.cell? ⟨gb259, 0, none⟩ = some (.slice (some ⟨go53, 0, none⟩) x260000_1.length co53) := (blk_cell BK259.out 0).trans rfl
         have hcz67_1 : w64.cell? ⟨gb259, 1, none⟩ = some (.bool (t257 == 0)) := (blk_cell BK259.out 1).trans rfl
         have hfz67_0 := blk_frozen BK259.out 0
         have hfz67_1 := blk_frozen BK259.out 1
         have hnb68 := NB256_0.out
         have hnc68 := NB0_256.out
         have hcz69_0 : w64.cell? ⟨gb256, 0, none⟩ = some (.slice none 0 0) := (blk_cell BK256.out 0).trans rfl
         have hcz69_1 : w64.cell? ⟨gb256, 1, none⟩ = some (.bool false) := (blk_cell BK256.out 1).trans rfl
         have hfz69_0 := blk_frozen BK256.out 0
         have hfz69_1 := blk_frozen BK256.out 1
         try go_wp2
         refine bodyPost_ret (results_cell_row rfl _ _ gb256 72 #[.slice (some ⟨go53, 0, none⟩) x260000_1.length co53, .bool (t257 == 0)] (0, 0) _ rfl (by (with_reducible repeat (first | refine blk_drewN ?_ _ | refine blk_drew ?_ | refine blk_alloc ?_ _)); refine blk_put (cs := #[.slice (some ⟨go53, 0, none⟩) x260000_1.length co53, .bool false]) ?_ 1 _ rfl; (with_reducible repeat (first | refine blk_drewN ?_ _ | refine blk_drew ?_ | refine blk_alloc ?_ _)); refine blk_put (cs := #[.slice none 0 0, .bool false]) ?_ 0 _ rfl; (with_reducible repeat (first | refine blk_drewN ?_ _ | refine blk_drew ?_ | refine blk_alloc ?_ _)); exact BK256.out) Tryd.underlying72 rfl (by kernel_rfl)) rfl ?_
         exact ⟨_, by first | rfl | (simp [errW_none, errW_some] <;> rfl) | (simp [*, errW_none, errW_some] <;> rfl), by (with_reducible repeat (first | apply Kd.R_alloc | apply Kd.R_drewN | apply Kd.R_drew)); exact Kd.R_mono (Kd.R_far (p := ⟨gb256, 1, none⟩) (Kd.R_far (p := ⟨gb256, 0, none⟩) (Kd.R_types HO_260000.out BK256.out (by decide)) (fun _ hk => by first | exact hk.2 | grind) (.slice (some ⟨go53, 0, none⟩) x260000_1.length co53)) (fun _ hk => by first | exact hk.2 | grind) (.bool (t257 == 0))) (fun _ hk => trivial), by repeat (first | (with_reducible first | exact HI0.out | apply IsS133.alloc | apply IsS133.drewN | apply IsS133.drew | apply IsS133.set_1 | refine IsS133.far ?_ NB0_256.out _ | refine IsS133.far ?_ NB0_259.out _) | exact HI0.out), by repeat (first | (with_reducible first | exact HB.out | apply below_alloc | apply pw_below_drewN | apply below_drew1 | refine below_set ?_ (IsS133.ge HI0.out) | refine below_set ?_ GE256.out | refine below_set ?_ GE259.out) | exact HB.out), by repeat (first | (with_reducible first | exact HK.out | apply KeepBut.set_ | apply keep_drewN | apply keep_drew | apply keep_alloc | refine keep_far ?_ GW256.out _ | refine keep_far ?_ GW259.out _) | exact HK.out)⟩
        ·rw [if_neg c52] at H
         exact absurd H (by simp)
       ·rw [if_neg c51] at H
        exact absurd H (by simp)
      ·rw [if_neg c50] at H
       exact absurd H (by simp)
     ·rw [if_neg c48] at H
      have c48b0 : (t277 == 0) = false := beq_eq_false_iff_ne.mpr c48
      have c48b1 : (t277 != 0) = true := bne_iff_ne.mpr c48
      by_cases c70 : t277 = 1
      ·rw [if_pos c70] at H
       have c70b0 : (t277 == 1) = true := beq_iff_eq.mpr c70
       have c70b1 : (t277 != 1) = false := bne_eq_false_iff_eq.mpr c70
       clear c70
       by_cases c71 : 0 < (x260000_1.length : Int)
       ·rw [if_pos c71] at H
        have c71b0 : decide (0 < (x260000_1.length : Int)) = true := decide_eq_true c71
        have c71b1 : decide (0 < x260000_1.length) = true := decide_eq_true (by omega)
        clear c71
        obtain ⟨y286, hy286⟩ : ∃ y_ : List Int, y_ = (x260000_1.set (0 : Int).toNat 3) := ⟨_, rfl⟩
        replace H : (some (y286, false, t278)) = some (r1, r2, r3) := by first | (rw [hy286]; with_reducible exact H) | (have H2_ := (Option.bind_some _ _).symm.trans H; rw [hy286]; with_reducible exact H2_) | (have H2_ := (Option.bind_some _ _).symm.trans H; with_reducible exact H2_) | with_reducible exact H | (rw [hy286]; exact H) | exact H
        have Ny286 := Aside0.mk hy286
        clear hy286
        simp only [Option.some.injEq, Prod.mk.injEq] at H
        obtain ⟨rfl, rfl, rfl⟩ := H
        have TK0_ := Aside0.mk trivial
        go_wp2_with (first | (clear TK0_; (with_reducible refine gate_callee (f := 130) rfl ?_); refine goesL_ (some 37) rfl rfl Tryd.func130 (by kernel_rfl) rfl #[.pointer (some ⟨g, 0, none⟩), .int .i64 a1] rfl (by (try simp only [List.map_toArray, List.map_cons, List.map_nil]); first | done | rfl | (simp only [List.length_drop, List.length_take]; rfl)) ?_; (with_reducible refine (spec_l20Rd_odd.calls k1 g s0_0 x1001_1 a1 true t276 w0 _ ?side1 ?side2 A45.out).mono ?_); (case side1 => repeat (first | (with_reducible first | exact HI0.out | apply IsS133.alloc | apply IsS133.drewN | apply IsS133.drew | apply IsS133.set_1 | refine IsS133.far ?_ NB0_256.out _ | refine IsS133.far ?_ NB0_259.out _) | exact HI0.out)); (case side2 => repeat (first | (with_reducible first | exact HB.out | apply below_alloc | apply pw_below_drewN | apply below_drew1 | refine below_set ?_ (IsS133.ge HI0.out) | refine below_set ?_ GE256.out | refine below_set ?_ GE259.out) | exact HB.out)); rintro e w73 ⟨rfl, hi, hb, hk⟩; refine ⟨_, rfl, ?_⟩; have n0_ := Aside0.mk (Kd.R_mono (Kd.R_keep (IsS133.apart (show IsS133 w0 _ g s0_0 x1001_1 from by repeat (first | (with_reducible first | exact HI0.out | apply IsS133.alloc | apply IsS133.drewN | apply IsS133.drew | apply IsS133.set_1 | refine IsS133.far ?_ NB0_256.out _ | refine IsS133.far ?_ NB0_259.out _) | exact HI0.out)) (rk HO_260000) (by decide)) hk (fun _ h => h.2)) (fun _ h => h.1)); have n1_ := Aside0.mk (KeepBut.blk hk (g' := gb256) (o := .cells #[.slice none 0 0, .bool false] 72 (0, 0)) (bk BK256) NB256_0.out (by simp)); have n2_ := Aside0.mk (KeepBut.blk hk (g' := gb259) (o := .cells #[u260000, .bool (t257 == 0)] 72 (0, 0)) (bk BK259) NB259_0.out (by simp)); have n3_ := Aside0.mk (KeepBut.trans (by repeat (first | (with_reducible first | exact HK.out | apply KeepBut.set_ | apply keep_drewN | apply keep_drew | apply keep_alloc | refine keep_far ?_ GW256.out _ | refine keep_far ?_ GW259.out _) | exact HK.out)) hk (.inl rfl)); have n4_ := Aside0.mk (hb); have n5_ := Aside0.mk (hi); clear HO_260000 BK256 BK259 HK HB HI0; have HO_260000 := n0_; have BK256 := n1_; have BK259 := n2_; have HK := n3_; have HB := n4_; have HI0 := n5_; clear n0_ n1_ n2_ n3_ n4_ n5_; (try clear hb); (try clear hb2); (try clear hk); (try clear hi); have TK1_ := Aside0.mk trivial) | (clear TK1_; (with_reducible refine gate_callee (f := 80) rfl ?_); refine goesL_ (some 39) rfl rfl Tryd.func80 (by kernel_rfl) rfl #[.pointer (some ⟨g, 0, none⟩), .int .i64 3] rfl (by (try simp only [List.map_toArray, List.map_cons, List.map_nil]); first | done | rfl | (simp only [List.length_drop, List.length_take]; rfl)) ?_; (with_reducible refine (spec_l20Rd_pick.calls k1 g s0_0 t276 3 t277 t278 w0 _ ?side1 ?side2 A47.out).mono ?_); (case side1 => repeat (first | (with_reducible first | exact HI0.out | apply IsS133.alloc | apply IsS133.drewN | apply IsS133.drew | apply IsS133.set_1 | refine IsS133.far ?_ NB0_256.out _ | refine IsS133.far ?_ NB0_259.out _) | exact HI0.out)); (case side2 => repeat (first | (with_reducible first | exact HB.out | apply below_alloc | apply pw_below_drewN | apply below_drew1 | refine below_set ?_ (IsS133.ge HI0.out) | refine below_set ?_ GE256.out | refine below_set ?_ GE259.out) | exact HB.out)); rintro e w74 ⟨rfl, hi, hb, hk⟩; refine ⟨_, rfl, ?_⟩; have n0_ := Aside0.mk (Kd.R_mono (Kd.R_keep (IsS133.apart (show IsS133 w0 _ g s0_0 t276 from by repeat (first | (with_reducible first | exact HI0.out | apply IsS133.alloc | apply IsS133.drewN | apply IsS133.drew | apply IsS133.set_1 | refine IsS133.far ?_ NB0_256.out _ | refine IsS133.far ?_ NB0_259.out _) | exact HI0.out)) (rk HO_260000) (by decide)) hk (fun _ h => h.2)) (fun _ h => h.1)); have n1_ := Aside0.mk (KeepBut.blk hk (g' := gb256) (o := .cells #[.slice none 0 0, .bool false] 72 (0, 0)) (bk BK256) NB256_0.out (by simp)); have n2_ := Aside0.mk (KeepBut.blk hk (g' := gb259) (o := .cells #[u260000, .bool (t257 == 0)] 72 (0, 0)) (bk BK259) NB259_0.out (by simp)); have n3_ := Aside0.mk (KeepBut.trans (by repeat (first | (with_reducible first | exact HK.out | apply KeepBut.set_ | apply keep_drewN | apply keep_drew | apply keep_alloc | refine keep_far ?_ GW256.out _ | refine keep_far ?_ GW259.out _) | exact HK.out)) hk (.inl rfl)); have n4_ := Aside0.mk (hb); have n5_ := Aside0.mk (hi); clear HO_260000 BK256 BK259 HK HB HI0; have HO_260000 := n0_; have BK256 := n1_; have BK259 := n2_; have HK := n3_; have HB := n4_; have HI0 := n5_; clear n0_ n1_ n2_ n3_ n4_ n5_; (try clear hb); (try clear hb2); (try clear hk); (try clear hi); have hnb75 := NB259_256.out; have hnc75 := NB256_259.out; have hnb76 := NB259_0.out; have hnc76 := NB0_259.out; have hcz77_0 : w74.cell? ⟨gb259, 0, none⟩ = some (u260000) := (blk_cell BK259.out 0).trans rfl; have hcz77_1 : w74.cell? ⟨gb259, 1, none⟩ = some (.bool (t257 == 0)) := (blk_cell BK259.out 1).trans rfl; have hfz77_0 := blk_frozen BK259.out 0; have hfz77_1 := blk_frozen BK259.out 1; have p72 : 0 ≤ (0 : Int) := (by omega); have q72 : (0 : Int) < ((x260000_1.length : Int) : Int) := of_decide_eq_true (by first | (with_reducible assumption) | assumption); have qi72 : (0 < x260000_1.length) = True := eq_true (by omega); obtain ⟨go72, co72, eo72, gb72, gl72, cl72, HG72⟩ := Kd.R_form HO_260000.out (by omega); (first | cases eo72 | (injection eo72 with ea_ en_ ec_; (first | subst ea_ | (injection ea_ with ea_; subst ea_)); subst ec_; clear en_)); have GB72 := Aside0.mk gb72; have GG72 := Aside0.mk HG72; clear gb72 gl72 HG72; obtain ⟨hx72_0, hf72_0⟩ := Kd.R_celln 0 HO_260000.out (0 : Int) p72 q72; (try rw [show ((0 : Int)).toNat = 0 from rfl] at hx72_0); (try simp only [Nat.reduceMul, Nat.zero_mul, Nat.zero_add, Nat.reduceAdd] at hx72_0); (try rw [show ((0 : Int)).toNat = 0 from rfl] at hf72_0); (try simp only [Nat.reduceMul, Nat.zero_mul, Nat.zero_add, Nat.reduceAdd] at hf72_0); replace p72 := eq_true p72; replace q72 := eq_true q72; obtain ⟨hy78_, hz78_⟩ := Kd.R_celln 0 HO_260000.out (0 : Int) (by omega) (of_decide_eq_true (by first | (with_reducible assumption) | assumption)); (try simp only [Int.reduceToNat, Int.toNat_zero, Int.toNat_ofNat, Nat.reduceMul, Nat.zero_mul, Nat.zero_add] at hy78_ hz78_); (try rw [show ((0 : Int)).toNat = 0 from rfl] at hy78_); (try rw [show ((0 : Int)).toNat = 0 from rfl] at hz78_); have HP78 := Kd.R_putg HO_260000.out (0 : Int) 3; have TK2_ := Aside0.mk trivial) | (clear TK2_; (with_reducible refine gate_store (t := 3) (p := 56) rfl ?_); refine store_event (t := 3) (p := 56) (v := ?vo_w79) (w1 := (w74.setCell ⟨go72, (0 : Int).toNat, none⟩ (.int .i64 3))) ?hg ?ho ?hn ?hr ?_; (case ho => rfl); (case hg => rfl); (case hn => rfl); (case hr => first | (go_simp; done) | (go_simp; rfl)); intro w79 hw; have hg : w74.grownBy w79 (some go72) := (by rw [hw]; exact HP78.2); have hp_ : Kd.R (Kd.int .i64) 3 w79 w.heap.size (fun _ => True) (.slice (some ⟨go72, 0, none⟩) x260000_1.length co72) y286 := (by rw [hw, Ny286.out]; exact HP78.1); clear HP78; have n0_ := Aside0.mk (hp_); have n1_ := Aside0.mk (blk_grown (g := gb256) (o := .cells #[.slice none 0 0, .bool false] 72 (0, 0)) (bk BK256) hg (Kd.R_ne HO_260000.out BK256.out (by decide))); have n2_ := Aside0.mk (blk_grown (g := gb259) (o := .cells #[.slice (some ⟨go72, 0, none⟩) x260000_1.length co72, .bool (t257 == 0)] 72 (0, 0)) (bk BK259) hg (Kd.R_ne HO_260000.out BK259.out (by decide))); have n3_ := Aside0.mk (IsS133.grown (by repeat (first | (with_reducible first | exact HI0.out | apply IsS133.alloc | apply IsS133.drewN | apply IsS133.drew | apply IsS133.set_1 | refine IsS133.far ?_ NB0_256.out _ | refine IsS133.far ?_ NB0_259.out _) | exact HI0.out)) hg (IsS133.own_ne HI0.out HO_260000.out (by decide))); have n4_ := Aside0.mk ((by rw [hw]; exact below_set (HB.out) (Nat.le_trans HL.out GB72.out) : Below w0.heap.size w0 w79)); have n5_ := Aside0.mk (KeepBut.trans (by repeat (first | (with_reducible first | exact HK.out | apply KeepBut.set_ | apply keep_drewN | apply keep_drew | apply keep_alloc | refine keep_far ?_ GW256.out _ | refine keep_far ?_ GW259.out _) | exact HK.out)) (KeepBut.of_grown hg g) (Kd.R_base2 HO_260000.out)); clear HO_260000 BK256 BK259 HI0 HB HK; have HO_260000 := n0_; have BK256 := n1_; have BK259 := n2_; have HI0 := n3_; have HB := n4_; have HK := n5_; clear n0_ n1_ n2_ n3_ n4_ n5_; clear hg hw hp_; have hcz80_0 : w79.cell? ⟨gb259, 0, none⟩ = some (.slice (some ⟨go72, 0, none⟩) x260000_1.length co72) := (blk_cell BK259.out 0).trans rfl; have hcz80_1 : w79.cell? ⟨gb259, 1, none⟩ = some (.bool (t257 == 0)) := (blk_cell BK259.out 1).trans rfl; have hfz80_0 := blk_frozen BK259.out 0; have hfz80_1 := blk_frozen BK259.out 1; have hnb81 := NB256_0.out; have hnc81 := NB0_256.out; have hcz82_0 : w79.cell? ⟨gb256, 0, none⟩ = some (.slice none 0 0) := (blk_cell BK256.out 0).trans rfl; have hcz82_1 : w79.cell? ⟨gb256, 1, none⟩ = some (.bool false) := (blk_cell BK256.out 1).trans rfl; have hfz82_0 := blk_frozen BK256.out 0; have hfz82_1 := blk_frozen BK256.out 1; have TK3_ := Aside0.mk trivial))
        refine bodyPost_ret (results_cell_row rfl _ _ gb256 72 #[.slice (some ⟨go72, 0, none⟩) x260000_1.length co72, .bool false] (0, 0) _ rfl (by (with_reducible repeat (first | refine blk_drewN ?_ _ | refine blk_drew ?_ | refine blk_alloc ?_ _)); refine blk_put (cs := #[.slice (some ⟨go72, 0, none⟩) x260000_1.length co72, .bool false]) ?_ 1 _ rfl; (with_reducible repeat (first | refine blk_drewN ?_ _ | refine blk_drew ?_ | refine blk_alloc ?_ _)); refine blk_put (cs := #[.slice none 0 0, .bool false]) ?_ 0 _ rfl; (with_reducible repeat (first | refine blk_drewN ?_ _ | refine blk_drew ?_ | refine blk_alloc ?_ _)); refine blk_far ?_ NB256_259.out _; (with_reducible repeat (first | refine blk_drewN ?_ _ | refine blk_drew ?_ | refine blk_alloc ?_ _)); exact BK256.out) Tryd.underlying72 rfl (by kernel_rfl)) rfl ?_
        exact ⟨_, by first | rfl | (simp [errW_none, errW_some] <;> rfl) | (simp [*, errW_none, errW_some] <;> rfl), by (with_reducible repeat (first | apply Kd.R_alloc | apply Kd.R_drewN | apply Kd.R_drew)); exact Kd.R_mono (Kd.R_far (p := ⟨gb256, 1, none⟩) (Kd.R_far (p := ⟨gb256, 0, none⟩) (Kd.R_far (p := ⟨gb259, 1, none⟩) (Kd.R_types (Kd.R_types HO_260000.out BK259.out (by decide)) BK256.out (by decide)) (fun _ hk => by first | exact hk.1.2 | grind) (.bool false)) (fun _ hk => by first | exact hk.2 | grind) (.slice (some ⟨go72, 0, none⟩) x260000_1.length co72)) (fun _ hk => by first | exact hk.2 | grind) (.bool false)) (fun _ hk => trivial), by repeat (first | (with_reducible first | exact HI0.out | apply IsS133.alloc | apply IsS133.drewN | apply IsS133.drew | apply IsS133.set_1 | refine IsS133.far ?_ NB0_256.out _ | refine IsS133.far ?_ NB0_259.out _) | exact HI0.out), by repeat (first | (with_reducible first | exact HB.out | apply below_alloc | apply pw_below_drewN | apply below_drew1 | refine below_set ?_ (IsS133.ge HI0.out) | refine below_set ?_ GE256.out | refine below_set ?_ GE259.out) | exact HB.out), by repeat (first | (with_reducible first | exact HK.out | apply KeepBut.set_ | apply keep_drewN | apply keep_drew | apply keep_alloc | refine keep_far ?_ GW256.out _ | refine keep_far ?_ GW259.out _) | exact HK.out)⟩
       ·rw [if_neg c71] at H
        exact absurd H (by simp)
      ·rw [if_neg c70] at H
       have c70b0 : (t277 == 1) = false := beq_eq_false_iff_ne.mpr c70
       have c70b1 : (t277 != 1) = true := bne_iff_ne.mpr c70
       by_cases c83 : 7 ≤ 35184372088832
       ·rw [if_pos c83] at H
        have c83b0 := eq_true c83
        have c83b1 : decide (7 ≤ 35184372088832) = true := decide_eq_true c83
        clear c83
        obtain ⟨y287, hy287⟩ : ∃ y_ : List Int, y_ = (List.replicate 7 0) := ⟨_, rfl⟩
        replace H : (some (y287, (t257 == 0), t278)) = some (r1, r2, r3) := by first | (rw [hy287]; with_reducible exact H) | (have H2_ := (Option.bind_some _ _).symm.trans H; rw [hy287]; with_reducible exact H2_) | (have H2_ := (Option.bind_some _ _).symm.trans H; with_reducible exact H2_) | with_reducible exact H | (rw [hy287]; exact H) | exact H
        have Ny287 := Aside0.mk hy287
        clear hy287
        simp only [Option.some.injEq, Prod.mk.injEq] at H
        obtain ⟨rfl, rfl, rfl⟩ := H
        have TK0_ := Aside0.mk trivial
        go_wp2_with (first | (clear TK0_; (with_reducible refine gate_callee (f := 130) rfl ?_); refine goesL_ (some 37) rfl rfl Tryd.func130 (by kernel_rfl) rfl #[.pointer (some ⟨g, 0, none⟩), .int .i64 a1] rfl (by (try simp only [List.map_toArray, List.map_cons, List.map_nil]); first | done | rfl | (simp only [List.length_drop, List.length_take]; rfl)) ?_; (with_reducible refine (spec_l20Rd_odd.calls k1 g s0_0 x1001_1 a1 true t276 w0 _ ?side1 ?side2 A45.out).mono ?_); (case side1 => repeat (first | (with_reducible first | exact HI0.out | apply IsS133.alloc | apply IsS133.drewN | apply IsS133.drew | apply IsS133.set_1 | refine IsS133.far ?_ NB0_256.out _ | refine IsS133.far ?_ NB0_259.out _) | exact HI0.out)); (case side2 => repeat (first | (with_reducible first | exact HB.out | apply below_alloc | apply pw_below_drewN | apply below_drew1 | refine below_set ?_ (IsS133.ge HI0.out) | refine below_set ?_ GE256.out | refine below_set ?_ GE259.out) | exact HB.out)); rintro e w84 ⟨rfl, hi, hb, hk⟩; refine ⟨_, rfl, ?_⟩; have n0_ := Aside0.mk (Kd.R_mono (Kd.R_keep (IsS133.apart (show IsS133 w0 _ g s0_0 x1001_1 from by repeat (first | (with_reducible first | exact HI0.out | apply IsS133.alloc | apply IsS133.drewN | apply IsS133.drew | apply IsS133.set_1 | refine IsS133.far ?_ NB0_256.out _ | refine IsS133.far ?_ NB0_259.out _) | exact HI0.out)) (rk HO_260000) (by decide)) hk (fun _ h => h.2)) (fun _ h => h.1)); have n1_ := Aside0.mk (KeepBut.blk hk (g' := gb256) (o := .cells #[.slice none 0 0, .bool false] 72 (0, 0)) (bk BK256) NB256_0.out (by simp)); have n2_ := Aside0.mk (KeepBut.blk hk (g' := gb259) (o := .cells #[u260000, .bool (t257 == 0)] 72 (0, 0)) (bk BK259) NB259_0.out (by simp)); have n3_ := Aside0.mk (KeepBut.trans (by repeat (first | (with_reducible first | exact HK.out | apply KeepBut.set_ | apply keep_drewN | apply keep_drew | apply keep_alloc | refine keep_far ?_ GW256.out _ | refine keep_far ?_ GW259.out _) | exact HK.out)) hk (.inl rfl)); have n4_ := Aside0.mk (hb); have n5_ := Aside0.mk (hi); clear HO_260000 BK256 BK259 HK HB HI0; have HO_260000 := n0_; have BK256 := n1_; have BK259 := n2_; have HK := n3_; have HB := n4_; have HI0 := n5_; clear n0_ n1_ n2_ n3_ n4_ n5_; (try clear hb); (try clear hb2); (try clear hk); (try clear hi); have TK1_ := Aside0.mk trivial) | (clear TK1_; (with_reducible refine gate_callee (f := 80) rfl ?_); refine goesL_ (some 39) rfl rfl Tryd.func80 (by kernel_rfl) rfl #[.pointer (some ⟨g, 0, none⟩), .int .i64 3] rfl (by (try simp only [List.map_toArray, List.map_cons, List.map_nil]); first | done | rfl | (simp only [List.length_drop, List.length_take]; rfl)) ?_; (with_reducible refine (spec_l20Rd_pick.calls k1 g s0_0 t276 3 t277 t278 w0 _ ?side1 ?side2 A47.out).mono ?_); (case side1 => repeat (first | (with_reducible first | exact HI0.out | apply IsS133.alloc | apply IsS133.drewN | apply IsS133.drew | apply IsS133.set_1 | refine IsS133.far ?_ NB0_256.out _ | refine IsS133.far ?_ NB0_259.out _) | exact HI0.out)); (case side2 => repeat (first | (with_reducible first | exact HB.out | apply below_alloc | apply pw_below_drewN | apply below_drew1 | refine below_set ?_ (IsS133.ge HI0.out) | refine below_set ?_ GE256.out | refine below_set ?_ GE259.out) | exact HB.out)); rintro e w85 ⟨rfl, hi, hb, hk⟩; refine ⟨_, rfl, ?_⟩; have n0_ := Aside0.mk (Kd.R_mono (Kd.R_keep (IsS133.apart (show IsS133 w0 _ g s0_0 t276 from by repeat (first | (with_reducible first | exact HI0.out | apply IsS133.alloc | apply IsS133.drewN | apply IsS133.drew | apply IsS133.set_1 | refine IsS133.far ?_ NB0_256.out _ | refine IsS133.far ?_ NB0_259.out _) | exact HI0.out)) (rk HO_260000) (by decide)) hk (fun _ h => h.2)) (fun _ h => h.1)); have n1_ := Aside0.mk (KeepBut.blk hk (g' := gb256) (o := .cells #[.slice none 0 0, .bool false] 72 (0, 0)) (bk BK256) NB256_0.out (by simp)); have n2_ := Aside0.mk (KeepBut.blk hk (g' := gb259) (o := .cells #[u260000, .bool (t257 == 0)] 72 (0, 0)) (bk BK259) NB259_0.out (by simp)); have n3_ := Aside0.mk (KeepBut.trans (by repeat (first | (with_reducible first | exact HK.out | apply KeepBut.set_ | apply keep_drewN | apply keep_drew | apply keep_alloc | refine keep_far ?_ GW256.out _ | refine keep_far ?_ GW259.out _) | exact HK.out)) hk (.inl rfl)); have n4_ := Aside0.mk (hb); have n5_ := Aside0.mk (hi); clear HO_260000 BK256 BK259 HK HB HI0; have HO_260000 := n0_; have BK256 := n1_; have BK259 := n2_; have HK := n3_; have HB := n4_; have HI0 := n5_; clear n0_ n1_ n2_ n3_ n4_ n5_; (try clear hb); (try clear hb2); (try clear hk); (try clear hi); have TK2_ := Aside0.mk trivial) | (clear TK2_; (with_reducible refine gate_dst (N := 40) rfl ?_); refine Kd.R_make (Kd.int .i64) _ 3 rfl (N := 40) rfl 30 _ _ rfl 7 rfl rfl Tryd.underlying30 (.int .i64 0) 8 info3 rfl (by decide) (by omega) 0 (ok := fun _ => True) (okp := fun _ => True) rfl (fun _ hk => by first | exact hk | grind) trivial (by omega) (by omega) (Below.refl _ _) (Nat.le_refl _) ?_; intro v288 w86 ho87 hb hg_ hnew_; clear hg_ hnew_; (first | rw [← Ny287.out] at ho87 | (simp only [Int.reduceToNat] at ho87; rw [← Ny287.out] at ho87)); have n0_ := Aside0.mk (Kd.R_elder' (rk HO_260000) (Kd.R_base ho87) hb); have n1_ := Aside0.mk (Kd.R_lower (Kd.R_new' ho87 (Kd.R_lt (rk HO_260000))) (keep_size (w := w) (g := g) (row := none) (by repeat (first | (with_reducible first | exact HK.out | apply KeepBut.set_ | apply keep_drewN | apply keep_drew | apply keep_alloc | refine keep_far ?_ GW256.out _ | refine keep_far ?_ GW259.out _) | exact HK.out)))); have n2_ := bkB BK256 hb; have n3_ := bkB BK259 hb; have n4_ := Aside0.mk (IsS133.below (by repeat (first | (with_reducible first | exact HI0.out | apply IsS133.alloc | apply IsS133.drewN | apply IsS133.drew | apply IsS133.set_1 | refine IsS133.far ?_ NB0_256.out _ | refine IsS133.far ?_ NB0_259.out _) | exact HI0.out)) hb); have n5_ := Aside0.mk (KeepBut.trans (by repeat (first | (with_reducible first | exact HK.out | apply KeepBut.set_ | apply keep_drewN | apply keep_drew | apply keep_alloc | refine keep_far ?_ GW256.out _ | refine keep_far ?_ GW259.out _) | exact HK.out)) (KeepBut.of_below hb g none) (.inl rfl)); have n6_ := Aside0.mk (below_step (by repeat (first | (with_reducible first | exact HB.out | apply below_alloc | apply pw_below_drewN | apply below_drew1 | refine below_set ?_ (IsS133.ge HI0.out) | refine below_set ?_ GE256.out | refine below_set ?_ GE259.out) | exact HB.out)) hb); clear HO_260000 BK256 BK259 HI0 HK HB; have HO_260000 := n0_; have HO289 := n1_; have BK256 := n2_; have BK259 := n3_; have HI0 := n4_; have HK := n5_; have HB := n6_; clear n0_ n1_ n2_ n3_ n4_ n5_ n6_; clear hb ho87; obtain ⟨Ao88, co88, eo88⟩ := Kd.R_slice HO289.out; subst eo88; have hnb89 := NB259_256.out; have hnc89 := NB256_259.out; have hnb90 := NB259_0.out; have hnc90 := NB0_259.out; have hcz91_0 : w86.cell? ⟨gb259, 0, none⟩ = some (u260000) := (blk_cell BK259.out 0).trans rfl; have hcz91_1 : w86.cell? ⟨gb259, 1, none⟩ = some (.bool (t257 == 0)) := (blk_cell BK259.out 1).trans rfl; have hfz91_0 := blk_frozen BK259.out 0; have hfz91_1 := blk_frozen BK259.out 1; have hnb92 := NB256_0.out; have hnc92 := NB0_256.out; have hcz93_0 : w86.cell? ⟨gb256, 0, none⟩ = some (.slice none 0 0) := (blk_cell BK256.out 0).trans rfl; have hcz93_1 : w86.cell? ⟨gb256, 1, none⟩ = some (.bool false) := (blk_cell BK256.out 1).trans rfl; have hfz93_0 := blk_frozen BK256.out 0; have hfz93_1 := blk_frozen BK256.out 1; have TK3_ := Aside0.mk trivial))
        refine bodyPost_ret (results_cell_row rfl _ _ gb256 72 #[.slice Ao88 y287.length co88, .bool (t257 == 0)] (0, 0) _ rfl (by (with_reducible repeat (first | refine blk_drewN ?_ _ | refine blk_drew ?_ | refine blk_alloc ?_ _)); refine blk_put (cs := #[.slice Ao88 y287.length co88, .bool false]) ?_ 1 _ rfl; (with_reducible repeat (first | refine blk_drewN ?_ _ | refine blk_drew ?_ | refine blk_alloc ?_ _)); refine blk_put (cs := #[.slice none 0 0, .bool false]) ?_ 0 _ rfl; (with_reducible repeat (first | refine blk_drewN ?_ _ | refine blk_drew ?_ | refine blk_alloc ?_ _)); refine blk_far ?_ NB256_259.out _; (with_reducible repeat (first | refine blk_drewN ?_ _ | refine blk_drew ?_ | refine blk_alloc ?_ _)); exact BK256.out) Tryd.underlying72 rfl (by kernel_rfl)) rfl ?_
        exact ⟨_, by first | rfl | (simp [errW_none, errW_some] <;> rfl) | (simp [*, errW_none, errW_some] <;> rfl), by (with_reducible repeat (first | apply Kd.R_alloc | apply Kd.R_drewN | apply Kd.R_drew)); exact Kd.R_mono (Kd.R_far (p := ⟨gb256, 1, none⟩) (Kd.R_far (p := ⟨gb256, 0, none⟩) (Kd.R_far (p := ⟨gb259, 0, none⟩) (Kd.R_types (Kd.R_types HO289.out BK259.out (by decide)) BK256.out (by decide)) (fun _ hk => by first | exact hk.1.2 | grind) (.slice Ao88 y287.length co88)) (fun _ hk => by first | exact hk.2 | grind) (.slice Ao88 y287.length co88)) (fun _ hk => by first | exact hk.2 | grind) (.bool (t257 == 0))) (fun _ hk => trivial), by repeat (first | (with_reducible first | exact HI0.out | apply IsS133.alloc | apply IsS133.drewN | apply IsS133.drew | apply IsS133.set_1 | refine IsS133.far ?_ NB0_256.out _ | refine IsS133.far ?_ NB0_259.out _) | exact HI0.out), by repeat (first | (with_reducible first | exact HB.out | apply below_alloc | apply pw_below_drewN | apply below_drew1 | refine below_set ?_ (IsS133.ge HI0.out) | refine below_set ?_ GE256.out | refine below_set ?_ GE259.out) | exact HB.out), by repeat (first | (with_reducible first | exact HK.out | apply KeepBut.set_ | apply keep_drewN | apply keep_drew | apply keep_alloc | refine keep_far ?_ GW256.out _ | refine keep_far ?_ GW259.out _) | exact HK.out)⟩
       ·rw [if_neg c83] at H
        exact absurd H (by simp)
    ·replace c46 := Bool.eq_false_iff.mpr c46
     subst c46
     have H1 : (some (x260000_1, (t257 == 0), t276)) = some (r1, r2, r3) := by rw [if_neg (show ¬ (false = true) by decide)] at H; exact H
     clear H
     have H := H1
     clear H1
     simp only [Option.some.injEq, Prod.mk.injEq] at H
     obtain ⟨rfl, rfl, rfl⟩ := H
     go_wp2_with (first | ((with_reducible refine gate_callee (f := 130) rfl ?_); refine goesL_ (some 37) rfl rfl Tryd.func130 (by kernel_rfl) rfl #[.pointer (some ⟨g, 0, none⟩), .int .i64 a1] rfl (by (try simp only [List.map_toArray, List.map_cons, List.map_nil]); first | done | rfl | (simp only [List.length_drop, List.length_take]; rfl)) ?_; (with_reducible refine (spec_l20Rd_odd.calls k1 g s0_0 x1001_1 a1 false t276 w0 _ ?side1 ?side2 A45.out).mono ?_); (case side1 => repeat (first | (with_reducible first | exact HI0.out | apply IsS133.alloc | apply IsS133.drewN | apply IsS133.drew | apply IsS133.set_1 | refine IsS133.far ?_ NB0_256.out _ | refine IsS133.far ?_ NB0_259.out _) | exact HI0.out)); (case side2 => repeat (first | (with_reducible first | exact HB.out | apply below_alloc | apply pw_below_drewN | apply below_drew1 | refine below_set ?_ (IsS133.ge HI0.out) | refine below_set ?_ GE256.out | refine below_set ?_ GE259.out) | exact HB.out)); rintro e w94 ⟨rfl, hi, hb, hk⟩; refine ⟨_, rfl, ?_⟩; have n0_ := Aside0.mk (Kd.R_mono (Kd.R_keep (IsS133.apart (show IsS133 w0 _ g s0_0 x1001_1 from by repeat (first | (with_reducible first | exact HI0.out | apply IsS133.alloc | apply IsS133.drewN | apply IsS133.drew | apply IsS133.set_1 | refine IsS133.far ?_ NB0_256.out _ | refine IsS133.far ?_ NB0_259.out _) | exact HI0.out)) (rk HO_260000) (by decide)) hk (fun _ h => h.2)) (fun _ h => h.1)); have n1_ := Aside0.mk (KeepBut.blk hk (g' := gb256) (o := .cells #[.slice none 0 0, .bool false] 72 (0, 0)) (bk BK256) NB256_0.out (by simp)); have n2_ := Aside0.mk (KeepBut.blk hk (g' := gb259) (o := .cells #[u260000, .bool (t257 == 0)] 72 (0, 0)) (bk BK259) NB259_0.out (by simp)); have n3_ := Aside0.mk (KeepBut.trans (by repeat (first | (with_reducible first | exact HK.out | apply KeepBut.set_ | apply keep_drewN | apply keep_drew | apply keep_alloc | refine keep_far ?_ GW256.out _ | refine keep_far ?_ GW259.out _) | exact HK.out)) hk (.inl rfl)); have n4_ := Aside0.mk (hb); have n5_ := Aside0.mk (hi); clear HO_260000 BK256 BK259 HK HB HI0; have HO_260000 := n0_; have BK256 := n1_; have BK259 := n2_; have HK := n3_; have HB := n4_; have HI0 := n5_; clear n0_ n1_ n2_ n3_ n4_ n5_; (try clear hb); (try clear hb2); (try clear hk); (try clear hi); have hnb95 := NB259_256.out; have hnc95 := NB256_259.out; have hnb96 := NB259_0.out; have hnc96 := NB0_259.out; have hcz97_0 : w94.cell? ⟨gb259, 0, none⟩ = some (u260000) := (blk_cell BK259.out 0).trans rfl; have hcz97_1 : w94.cell? ⟨gb259, 1, none⟩ = some (.bool (t257 == 0)) := (blk_cell BK259.out 1).trans rfl; have hfz97_0 := blk_frozen BK259.out 0; have hfz97_1 := blk_frozen BK259.out 1; obtain ⟨Ao98, co98, eo98⟩ := Kd.R_slice HO_260000.out; subst eo98; have hnb99 := NB256_0.out; have hnc99 := NB0_256.out; have hcz100_0 : w94.cell? ⟨gb256, 0, none⟩ = some (.slice none 0 0) := (blk_cell BK256.out 0).trans rfl; have hcz100_1 : w94.cell? ⟨gb256, 1, none⟩ = some (.bool false) := (blk_cell BK256.out 1).trans rfl; have hfz100_0 := blk_frozen BK256.out 0; have hfz100_1 := blk_frozen BK256.out 1))
     refine bodyPost_ret (results_cell_row rfl _ _ gb256 72 #[.slice Ao98 x260000_1.length co98, .bool (t257 == 0)] (0, 0) _ rfl (by (with_reducible repeat (first | refine blk_drewN ?_ _ | refine blk_drew ?_ | refine blk_alloc ?_ _)); refine blk_put (cs := #[.slice Ao98 x260000_1.length co98, .bool false]) ?_ 1 _ rfl; (with_reducible repeat (first | refine blk_drewN ?_ _ | refine blk_drew ?_ | refine blk_alloc ?_ _)); refine blk_put (cs := #[.slice none 0 0, .bool false]) ?_ 0 _ rfl; (with_reducible repeat (first | refine blk_drewN ?_ _ | refine blk_drew ?_ | refine blk_alloc ?_ _)); exact BK256.out) Tryd.underlying72 rfl (by kernel_rfl)) rfl ?_
     exact ⟨_, by first | rfl | (simp [errW_none, errW_some] <;> rfl) | (simp [*, errW_none, errW_some] <;> rfl), by (with_reducible repeat (first | apply Kd.R_alloc | apply Kd.R_drewN | apply Kd.R_drew)); exact Kd.R_mono (Kd.R_far (p := ⟨gb256, 1, none⟩) (Kd.R_far (p := ⟨gb256, 0, none⟩) (Kd.R_types HO_260000.out BK256.out (by decide)) (fun _ hk => by first | exact hk.2 | grind) (.slice Ao98 x260000_1.length co98)) (fun _ hk => by first | exact hk.2 | grind) (.bool (t257 == 0))) (fun _ hk => trivial), by repeat (first | (with_reducible first | exact HI0.out | apply IsS133.alloc | apply IsS133.drewN | apply IsS133.drew | apply IsS133.set_1 | refine IsS133.far ?_ NB0_256.out _ | refine IsS133.far ?_ NB0_259.out _) | exact HI0.out), by repeat (first | (with_reducible first | exact HB.out | apply below_alloc | apply pw_below_drewN | apply below_drew1 | refine below_set ?_ (IsS133.ge HI0.out) | refine below_set ?_ GE256.out | refine below_set ?_ GE259.out) | exact HB.out), by repeat (first | (with_reducible first | exact HK.out | apply KeepBut.set_ | apply keep_drewN | apply keep_drew | apply keep_alloc | refine keep_far ?_ GW256.out _ | refine keep_far ?_ GW259.out _) | exact HK.out)⟩

/-! ### spec_DrawBarsValid: function 51 -/
def spec_DrawBarsValid.f (k : Nat) (l0 : List Int) : Option (List Int × Bool) := (spec_l20Open.f l0).bind fun bt291 => ((spec_l20Bars.f k bt291.1 bt291.2 2).bind fun bt294 => (some (bt294.1, bt294.2.1)))
theorem spec_DrawBarsValid.mono : ∀ a0 k, LeO (spec_DrawBarsValid.f k a0) (spec_DrawBarsValid.f (k + 1) a0) := by
 intro a0 k
 unfold spec_DrawBarsValid.f
 repeat' first
   | (with_reducible exact spec_l20Bars.mono _ _ _ _)
   | (with_reducible exact LeO.refl _)
   | (with_reducible exact LeO.none _)
   | (with_reducible refine LeO.ite ?_ ?_)
   | (with_reducible refine LeO.bind ?_ (fun _ => ?_))
   | exact spec_l20Bars.mono _ _ _ _
   | exact LeO.none _
   | refine LeO.ite ?_ ?_
   | refine LeO.bind ?_ (fun _ => ?_)
set_option maxHeartbeats 8000000 in
set_option maxRecDepth 100000 in
theorem spec_DrawBarsValid.calls (k : Nat) (A0 : Option Addr) (c0 : Nat) (l0 : List Int) (r1 : List Int) (r2 : Bool) (w : World) (hr0 : Kd.C (Kd.int .u8) w A0 l0.length l0) (hc0 : l0.length ≤ c0) (h : spec_DrawBarsValid.f k l0 = some (r1, r2)) :
  Calls Tryd.prog 51 #[.slice A0 l0.length c0] w fun e w' => ∃ v0_ : Value, e = .returned (.agg #[v0_, .bool r2]) ∧ Kd.R (Kd.int .i64) 3 w' w.heap.size (fun _ => True) v0_ r1 ∧ Below w.heap.size w w' := by
 have hu72 := Tryd.underlying72
 have HR0 := Aside0.mk hr0
 have HC0 := Aside0.mk hc0
 clear hr0 hc0
 have HB := Aside0.mk (Below.refl w.heap.size w)
 have H : ((spec_l20Open.f l0).bind fun bt291 => ((spec_l20Bars.f k bt291.1 bt291.2 2).bind fun bt294 => (some (bt294.1, bt294.2.1)))) = some (r1, r2) := h
 clear h
 replace H := Option.bind_eq_some_iff.mp H
 obtain ⟨⟨t291, t292⟩, A20, H⟩ := H
 replace H : ((spec_l20Bars.f k t291 t292 2).bind fun bt294 => (some (bt294.1, bt294.2.1))) = some (r1, r2) := H
 have A2 := Aside0.mk A20
 clear A20
 replace H := Option.bind_eq_some_iff.mp H
 obtain ⟨⟨t294, t297, t298⟩, A30, H⟩ := H
 replace H : (some (t294, t297)) = some (r1, r2) := H
 have A3 := Aside0.mk A30
 clear A30
 simp only [Option.some.injEq, Prod.mk.injEq] at H
 obtain ⟨rfl, rfl⟩ := H
 go_enter Tryd.func51, Tryd.ntmps51
 have TK0_ := Aside0.mk trivial
 go_wp2_with (first | (clear TK0_; (with_reducible refine gate_dst (N := 2) rfl ?_); refine box_event ?hg (N := 2) ?hd (cs := #[.slice none 0 0, .bool false]) (t := 72) ?hr ?_; (case hd => rfl); (case hg => rfl); (case hr => first | (go_simp; done) | (go_simp; rfl)); intro gb290 hg w4 hbox hb; have n0_ := Aside0.mk (below_step bw hb); have n1_ := Aside0.mk (hbox); have n2_ := Aside0.mk ((by rw [hg]; exact (below_size bw) : w.heap.size ≤ gb290)); have n3_ := Aside0.mk ((by rw [hg]; exact (below_size bw) : w.heap.size ≤ gb290)); clear HB; have HB := n0_; have BK290 := n1_; have GW290 := n2_; have GE290 := n3_; clear n0_ n1_ n2_ n3_; clear hb hbox hg; have TK1_ := Aside0.mk trivial) | (clear TK1_; (with_reducible refine gate_callee (f := 68) rfl ?_); refine goesL_ (some 4) rfl rfl Tryd.func68 (by kernel_rfl) rfl #[.slice A0 l0.length c0] rfl (by (try simp only [List.map_toArray, List.map_cons, List.map_nil]); first | done | rfl | (simp only [List.length_drop, List.length_take]; rfl)) ?_; (with_reducible refine (spec_l20Open.calls _ _ l0 t291 t292 w _ ?side1 ?side2 ?side3 A2.out).mono ?_); (case side1 => exact bw); (case side2 => exact HR0.out); (case side3 => exact HC0.out); rintro e w5 ⟨g293, rfl, hi, hb, hb2⟩; refine ⟨_, rfl, ?_⟩; have n0_ := Aside0.mk (blk_below (g := gb290) (o := .cells #[.slice none 0 0, .bool false] 72 (0, 0)) (bk BK290) hb2); have n1_ := Aside0.mk (hb); have n2_ := Aside0.mk (hi); have n3_ := Aside0.mk (IsS133.ne_blk hi (blk_below (g := gb290) (o := .cells #[.slice none 0 0, .bool false] 72 (0, 0)) (bk BK290) hb2) (by decide)); have n4_ := Aside0.mk (Ne.symm (IsS133.ne_blk hi (blk_below (g := gb290) (o := .cells #[.slice none 0 0, .bool false] 72 (0, 0)) (bk BK290) hb2) (by decide))); clear BK290 HB; have BK290 := n0_; have HB := n1_; have HI293 := n2_; have NB293_290 := n3_; have NB290_293 := n4_; clear n0_ n1_ n2_ n3_ n4_; (try clear hb); (try clear hb2); (try clear hk); (try clear hi); have TK2_ := Aside0.mk trivial) | (clear TK2_; (with_reducible refine gate_callee (f := 103) rfl ?_); refine goesL_ (some 5) rfl rfl Tryd.func103 (by kernel_rfl) rfl #[.pointer (some ⟨g293, 0, none⟩), .int .i64 2] rfl (by (try simp only [List.map_toArray, List.map_cons, List.map_nil]); first | done | rfl | (simp only [List.length_drop, List.length_take]; rfl)) ?_; (with_reducible refine (spec_l20Bars.calls k g293 t291 t292 2 t294 t297 t298 w _ ?side1 ?side2 A3.out).mono ?_); (case side1 => repeat (first | (with_reducible first | exact HI293.out | apply IsS133.alloc | apply IsS133.drewN | apply IsS133.drew | apply IsS133.set_1 | refine IsS133.far ?_ NB293_290.out _) | exact HI293.out)); (case side2 => repeat (first | (with_reducible first | exact HB.out | apply below_alloc | apply pw_below_drewN | apply below_drew1 | refine below_set ?_ (IsS133.ge HI293.out) | refine below_set ?_ GE290.out) | exact HB.out)); rintro e w6 ⟨v295, rfl, ho0, hi, hb, hk⟩; refine ⟨_, rfl, ?_⟩; have n0_ := Aside0.mk (KeepBut.blk hk (g' := gb290) (o := .cells #[.slice none 0 0, .bool false] 72 (0, 0)) (bk BK290) NB290_293.out (by simp)); have n1_ := Aside0.mk (Kd.R_lower ho0 (below_size (by repeat (first | (with_reducible first | exact HB.out | apply below_alloc | apply pw_below_drewN | apply below_drew1 | refine below_set ?_ (IsS133.ge HI293.out) | refine below_set ?_ GE290.out) | exact HB.out)))); have n2_ := Aside0.mk (hb); have n3_ := Aside0.mk (hi); clear BK290 HB HI293; have BK290 := n0_; have HO296 := n1_; have HB := n2_; have HI293 := n3_; clear n0_ n1_ n2_ n3_; (try clear hb); (try clear hb2); (try clear hk); (try clear hi); (try clear ho0); obtain ⟨Ao7, co7, eo7⟩ := Kd.R_slice HO296.out; subst eo7; have hnb8 := NB290_293.out; have hnc8 := NB293_290.out; have hcz9_0 : w6.cell? ⟨gb290, 0, none⟩ = some (.slice none 0 0) := (blk_cell BK290.out 0).trans rfl; have hcz9_1 : w6.cell? ⟨gb290, 1, none⟩ = some (.bool false) := (blk_cell BK290.out 1).trans rfl; have hfz9_0 := blk_frozen BK290.out 0; have hfz9_1 := blk_frozen BK290.out 1; have TK3_ := Aside0.mk trivial))
 refine bodyPost_ret (results_cell_row rfl _ _ gb290 72 #[.slice Ao7 t294.length co7, .bool t297] (0, 0) _ rfl (by (with_reducible repeat (first | refine blk_drewN ?_ _ | refine blk_drew ?_ | refine blk_alloc ?_ _)); refine blk_put (cs := #[.slice Ao7 t294.length co7, .bool false]) ?_ 1 _ rfl; (with_reducible repeat (first | refine blk_drewN ?_ _ | refine blk_drew ?_ | refine blk_alloc ?_ _)); refine blk_put (cs := #[.slice none 0 0, .bool false]) ?_ 0 _ rfl; (with_reducible repeat (first | refine blk_drewN ?_ _ | refine blk_drew ?_ | refine blk_alloc ?_ _)); exact BK290.out) Tryd.underlying72 rfl (by kernel_rfl)) rfl ?_
 exact ⟨_, by first | rfl | (simp [errW_none, errW_some] <;> rfl) | (simp [*, errW_none, errW_some] <;> rfl), by (with_reducible repeat (first | apply Kd.R_alloc | apply Kd.R_drewN | apply Kd.R_drew)); exact Kd.R_mono (Kd.R_far (p := ⟨gb290, 1, none⟩) (Kd.R_far (p := ⟨gb290, 0, none⟩) (Kd.R_types HO296.out BK290.out (by decide)) (fun _ hk => by first | exact hk.2 | grind) (.slice Ao7 t294.length co7)) (fun _ hk => by first | exact hk.2 | grind) (.bool t297)) (fun _ hk => trivial), by repeat (first | (with_reducible first | exact HB.out | apply below_alloc | apply pw_below_drewN | apply below_drew1 | refine below_set ?_ (IsS133.ge HI293.out) | refine below_set ?_ GE290.out) | exact HB.out)⟩

end Go.Proofs.YtoajkfhjgnonjaaDoor.G
