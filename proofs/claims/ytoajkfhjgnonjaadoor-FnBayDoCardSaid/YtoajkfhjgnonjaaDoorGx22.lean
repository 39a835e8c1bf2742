-- Printed by wip/gen.py of this session's repo, over the kit's print.py. Not trusted: Lean checks it.
import Derived.Test.YtoajkfhjgnonjaaDoorSq
import Derived.Test.YtoajkfhjgnonjaaDoorGx0
import Derived.Test.YtoajkfhjgnonjaaDoorGx1
import Derived.Test.YtoajkfhjgnonjaaDoorGx2
import Derived.Test.YtoajkfhjgnonjaaDoorGx7
namespace Go.Proofs.YtoajkfhjgnonjaaDoor.G
open Go.RowKit Go.Proofs.YtoajkfhjgnonjaaDoorW.PrintWords Go.Proofs.YtoajkfhjgnonjaaDoorW.PrintLast Go.Proofs.YtoajkfhjgnonjaaDoorW.PrintMore Go.Proofs.YtoajkfhjgnonjaaDoor.Sq
attribute [local go_sem] max2_int min2_int max_two min_two max_three min_three max_four min_four   -- for this text's walks alone
set_option linter.unusedVariables false
set_option linter.unusedSimpArgs false

theorem eqA59Q22 (d : Nat) (w : World) (x0 y0 : Bool) (x1 y1 : Bool) (x2 y2 : Bool) (x3 y3 : Bool) :
  (Op.equalIn (d + 2) 59 (.agg #[.bool x0, .bool x1, .bool x2, .bool x3]) (.agg #[.bool y0, .bool y1, .bool y2, .bool y3])).run Tryd.prog w = .ok (x0 == y0 && (x1 == y1 && (x2 == y2 && (x3 == y3)))) w := by
 refine eqA_of Tryd.underlying59 (by kernel_rfl) ?_
 refine eqf_cons (by rfl) (by go_simp; rfl) (by go_simp; rfl) (by go_simp) ?_
 refine eqf_cons (by rfl) (by go_simp; rfl) (by go_simp; rfl) (by go_simp) ?_
 refine eqf_cons (by rfl) (by go_simp; rfl) (by go_simp; rfl) (by go_simp) ?_
 exact eqf_last (by rfl) (by go_simp; rfl) (by go_simp; rfl) (by go_simp)

attribute [local go_sem high] eqA59Q22
/-! ### laws_FnBayDo: function 13 -/
def laws_FnBayDo.j0 : Nat → Int → Bool → Bool → Bool → Bool → Bool → Bool → Bool → Bool → Bool → Bool → Option (Bool)
 | 0, _, _, _, _, _, _, _, _, _, _, _ => none
 | k + 1, x4, x6, x38, x366000, x366001, x366002, x366003, x372000, x372001, x372002, x372003 => if x38 = true then (some false) else (if x6 = true then ((impl_BayDo.f x372000 x372001 x372002 x372003 (wrap64 ((wrap64 (x4 + 1)) - (wrap64 (2 * (Int.tmod x4 2)))))).bind fun bt378 => (if (!(x372000 == x366000) || (!(x372001 == x366001) || (!(x372002 == x366002) || (!(x372003 == x366003))))) = true then ((impl_BaySafe.f x366000 x366001 x366002 x366003).bind fun t384 => (if t384 = true then (if bt378.2.2.2.2 = true then (some (bt378.1 == x366000 && (bt378.2.1 == x366001 && (bt378.2.2.1 == x366002 && (bt378.2.2.2.1 == x366003))))) else (some false)) else (some true))) else (some false))) else (if (x372000 == x366000 && (x372001 == x366001 && (x372002 == x366002 && (x372003 == x366003)))) = true then ((impl_BayMay.f x366000 x366001 x366002 x366003 x4).bind fun t385 => (if t385 = true then (some false) else ((laws_alive.f k).bind fun t386 => (some t386)))) else (some false)))
def laws_FnBayDo.f (k : Nat) (l0 : List Int) : Option (Bool) := if (l0.length : Int) > 1048576 then (some true) else ((spec_DrawBayDo.f k l0).bind fun bt360 => ((impl_BayDo.f bt360.1 bt360.2.1 bt360.2.2.1 bt360.2.2.2.1 bt360.2.2.2.2).bind fun bt366 => ((spec_BayDo.f bt360.1 bt360.2.1 bt360.2.2.1 bt360.2.2.2.1 bt360.2.2.2.2).bind fun bt372 => (if (!(bt366.1 == bt372.1) || (!(bt366.2.1 == bt372.2.1) || (!(bt366.2.2.1 == bt372.2.2.1) || (!(bt366.2.2.2.1 == bt372.2.2.2.1))))) = true then (laws_FnBayDo.j0 k bt360.2.2.2.2 bt366.2.2.2.2 true bt360.1 bt360.2.1 bt360.2.2.1 bt360.2.2.2.1 bt366.1 bt366.2.1 bt366.2.2.1 bt366.2.2.2.1) else (laws_FnBayDo.j0 k bt360.2.2.2.2 bt366.2.2.2.2 (bt366.2.2.2.2 != bt372.2.2.2.2) bt360.1 bt360.2.1 bt360.2.2.1 bt360.2.2.2.1 bt366.1 bt366.2.1 bt366.2.2.1 bt366.2.2.2.1)))))
theorem laws_FnBayDo.mono_l : ∀ k, (∀ y0 y1 y2 y3 y4 y5 y6 y7 y8 y9 y10, LeO (laws_FnBayDo.j0 k y0 y1 y2 y3 y4 y5 y6 y7 y8 y9 y10) (laws_FnBayDo.j0 (k + 1) y0 y1 y2 y3 y4 y5 y6 y7 y8 y9 y10))
 | 0 => fun _ _ _ _ _ _ _ _ _ _ _ r h => by simp [laws_FnBayDo.j0] at h
 | k + 1 => by
  have ih0 := laws_FnBayDo.mono_l k
  ·intro y0 y1 y2 y3 y4 y5 y6 y7 y8 y9 y10
   unfold laws_FnBayDo.j0
   repeat' first
   | (with_reducible exact ih0 _ _ _ _ _ _ _ _ _ _ _)
   | (with_reducible exact laws_alive.mono _)
   | (with_reducible exact spec_DrawBayDo.mono _ _)
   | (with_reducible exact LeO.refl _)
   | (with_reducible exact LeO.none _)
   | (with_reducible refine LeO.ite ?_ ?_)
   | (with_reducible refine LeO.bind ?_ (fun _ => ?_))
   | exact ih0 _ _ _ _ _ _ _ _ _ _ _
   | exact laws_alive.mono _
   | exact spec_DrawBayDo.mono _ _
   | exact LeO.none _
   | refine LeO.ite ?_ ?_
   | refine LeO.bind ?_ (fun _ => ?_)
theorem laws_FnBayDo.mono : ∀ a0 k, LeO (laws_FnBayDo.f k a0) (laws_FnBayDo.f (k + 1) a0) := by
 intro a0 k
 have ih0 := laws_FnBayDo.mono_l k
 unfold laws_FnBayDo.f
 repeat' first
   | (with_reducible exact ih0 _ _ _ _ _ _ _ _ _ _ _)
   | (with_reducible exact laws_alive.mono _)
   | (with_reducible exact spec_DrawBayDo.mono _ _)
   | (with_reducible exact LeO.refl _)
   | (with_reducible exact LeO.none _)
   | (with_reducible refine LeO.ite ?_ ?_)
   | (with_reducible refine LeO.bind ?_ (fun _ => ?_))
   | exact ih0 _ _ _ _ _ _ _ _ _ _ _
   | exact laws_alive.mono _
   | exact spec_DrawBayDo.mono _ _
   | exact LeO.none _
   | refine LeO.ite ?_ ?_
   | refine LeO.bind ?_ (fun _ => ?_)
set_option maxHeartbeats 8000000 in
set_option maxRecDepth 100000 in
theorem laws_FnBayDo.calls (k : Nat) (A0 : Option Addr) (c0 : Nat) (l0 : List Int) (r : Bool) (w : World) (hr0 : Kd.C (Kd.int .u8) w A0 l0.length l0) (hc0 : l0.length ≤ c0) (h : laws_FnBayDo.f k l0 = some r) :
  Calls Tryd.prog 13 #[.slice A0 l0.length c0] w fun e w' => e = .returned (.bool r) ∧ Below w.heap.size w w' := by
 have hu59 := Tryd.underlying59
 have HR0 := Aside0.mk hr0
 have HC0 := Aside0.mk hc0
 clear hr0 hc0
 have HB := Aside0.mk (Below.refl w.heap.size w)
 have H : (if (l0.length : Int) > 1048576 then (some true) else ((spec_DrawBayDo.f k l0).bind fun bt360 => ((impl_BayDo.f bt360.1 bt360.2.1 bt360.2.2.1 bt360.2.2.2.1 bt360.2.2.2.2).bind fun bt366 => ((spec_BayDo.f bt360.1 bt360.2.1 bt360.2.2.1 bt360.2.2.2.1 bt360.2.2.2.2).bind fun bt372 => (if (!(bt366.1 == bt372.1) || (!(bt366.2.1 == bt372.2.1) || (!(bt366.2.2.1 == bt372.2.2.1) || (!(bt366.2.2.2.1 == bt372.2.2.2.1))))) = true then (laws_FnBayDo.j0 k bt360.2.2.2.2 bt366.2.2.2.2 true bt360.1 bt360.2.1 bt360.2.2.1 bt360.2.2.2.1 bt366.1 bt366.2.1 bt366.2.2.1 bt366.2.2.2.1) else (laws_FnBayDo.j0 k bt360.2.2.2.2 bt366.2.2.2.2 (bt366.2.2.2.2 != bt372.2.2.2.2) bt360.1 bt360.2.1 bt360.2.2.1 bt360.2.2.2.1 bt366.1 bt366.2.1 bt366.2.2.1 bt366.2.2.2.1)))))) = some r := h
 clear h
 by_cases c2 : (l0.length : Int) > 1048576
 ·rw [if_pos c2] at H
  have c2b0 : decide (1048576 < (l0.length : Int)) = true := decide_eq_true c2
  have c2b1 : decide (1048576 < l0.length) = true := decide_eq_true (by omega)
  clear c2
  obtain rfl := Option.some.inj H
  go_enter Tryd.func13, Tryd.ntmps13
  go_wp2
  go_ret
  exact ⟨by first | rfl | (simp [errW_none, errW_some] <;> rfl) | (simp [*, errW_none, errW_some] <;> rfl), bw⟩
 ·rw [if_neg c2] at H
  have c2b0 : decide (1048576 < (l0.length : Int)) = false := decide_eq_false c2
  have c2b1 : decide (1048576 < l0.length) = false := decide_eq_false (by omega)
  clear c2
  replace H := Option.bind_eq_some_iff.mp H
  obtain ⟨⟨t360, t361, t362, t363, t364⟩, A30, H⟩ := H
  replace H : ((impl_BayDo.f t360 t361 t362 t363 t364).bind fun bt366 => ((spec_BayDo.f t360 t361 t362 t363 t364).bind fun bt372 => (if (!(bt366.1 == bt372.1) || (!(bt366.2.1 == bt372.2.1) || (!(bt366.2.2.1 == bt372.2.2.1) || (!(bt366.2.2.2.1 == bt372.2.2.2.1))))) = true then (laws_FnBayDo.j0 k t364 bt366.2.2.2.2 true t360 t361 t362 t363 bt366.1 bt366.2.1 bt366.2.2.1 bt366.2.2.2.1) else (laws_FnBayDo.j0 k t364 bt366.2.2.2.2 (bt366.2.2.2.2 != bt372.2.2.2.2) t360 t361 t362 t363 bt366.1 bt366.2.1 bt366.2.2.1 bt366.2.2.2.1)))) = some r := H
  have A3 := Aside0.mk A30
  clear A30
  replace H := Option.bind_eq_some_iff.mp H
  obtain ⟨⟨t366, t367, t368, t369, t370⟩, A40, H⟩ := H
  replace H : ((spec_BayDo.f t360 t361 t362 t363 t364).bind fun bt372 => (if (!(t366 == bt372.1) || (!(t367 == bt372.2.1) || (!(t368 == bt372.2.2.1) || (!(t369 == bt372.2.2.2.1))))) = true then (laws_FnBayDo.j0 k t364 t370 true t360 t361 t362 t363 t366 t367 t368 t369) else (laws_FnBayDo.j0 k t364 t370 (t370 != bt372.2.2.2.2) t360 t361 t362 t363 t366 t367 t368 t369))) = some r := H
  have A4 := Aside0.mk A40
  clear A40
  replace H := Option.bind_eq_some_iff.mp H
  obtain ⟨⟨t372, t373, t374, t375, t376⟩, A50, H⟩ := H
  replace H : (if (!(t366 == t372) || (!(t367 == t373) || (!(t368 == t374) || (!(t369 == t375))))) = true then (laws_FnBayDo.j0 k t364 t370 true t360 t361 t362 t363 t366 t367 t368 t369) else (laws_FnBayDo.j0 k t364 t370 (t370 != t376) t360 t361 t362 t363 t366 t367 t368 t369)) = some r := H
  have A5 := Aside0.mk A50
  clear A50
  have HC6 := Aside0.mk H
  clear H
  go_enter Tryd.func13, Tryd.ntmps13
  have TK0_ := Aside0.mk trivial
  go_upto_region 6 with (first | (clear TK0_; (with_reducible refine gate_callee (f := 62) rfl ?_); refine goesL_ (some 16) rfl rfl Tryd.func62 (by kernel_rfl) rfl #[.slice A0 l0.length c0] rfl (by (try simp only [List.map_toArray, List.map_cons, List.map_nil]); first | done | rfl | (simp only [List.length_drop, List.length_take]; rfl)) ?_; (with_reducible refine (spec_DrawBayDo.calls k _ _ l0 t360 t361 t362 t363 t364 _ ?side1 ?side2 A3.out).mono ?_); (case side1 => repeat (first | exact HR0.out | (with_reducible refine Kd.C_alloc ?_ _) | (with_reducible refine Kd.C_drewN ?_ _) | (with_reducible refine Kd.C_drew ?_))); (case side2 => exact HC0.out); rintro e w7 ⟨rfl, hb⟩; refine ⟨_, rfl, ?_⟩; have n0_ := Aside0.mk (below_step bw hb); clear HB; have HB := n0_; clear n0_; (try clear hb); (try clear hb2); (try clear hk); (try clear hi); have TK1_ := Aside0.mk trivial) | (clear TK1_; (with_reducible refine gate_dst (N := 3) rfl ?_); refine box_event ?hg (N := 3) ?hd (cs := #[.bool false, .bool false, .bool false, .bool false]) (t := 59) ?hr ?_; (case hd => rfl); (case hg => rfl); (case hr => first | (go_simp; done) | (go_simp; rfl)); intro gb365 hg w8 hbox hb; have n0_ := Aside0.mk (below_step bw hb); have n1_ := Aside0.mk (hbox); have n2_ := Aside0.mk ((by rw [hg]; exact (below_size bw) : w.heap.size ≤ gb365)); have n3_ := Aside0.mk ((by rw [hg]; exact (below_size bw) : w.heap.size ≤ gb365)); clear HB; have HB := n0_; have BK365 := n1_; have GW365 := n2_; have GE365 := n3_; clear n0_ n1_ n2_ n3_; clear hb hbox hg; have hcz9_0 : w8.cell? ⟨gb365, 0, none⟩ = some (.bool false) := (blk_cell BK365.out 0).trans rfl; have hcz9_1 : w8.cell? ⟨gb365, 1, none⟩ = some (.bool false) := (blk_cell BK365.out 1).trans rfl; have hcz9_2 : w8.cell? ⟨gb365, 2, none⟩ = some (.bool false) := (blk_cell BK365.out 2).trans rfl; have hcz9_3 : w8.cell? ⟨gb365, 3, none⟩ = some (.bool false) := (blk_cell BK365.out 3).trans rfl; have hfz9_0 := blk_frozen BK365.out 0; have hfz9_1 := blk_frozen BK365.out 1; have hfz9_2 := blk_frozen BK365.out 2; have hfz9_3 := blk_frozen BK365.out 3; have TK2_ := Aside0.mk trivial) | (clear TK2_; (with_reducible refine gate_callee (f := 57) rfl ?_); refine goesL_ (some 22) rfl rfl Tryd.func57 (by kernel_rfl) rfl #[.agg #[.bool t360, .bool t361, .bool t362, .bool t363], .int .i64 t364] rfl (by (try simp only [List.map_toArray, List.map_cons, List.map_nil]); first | done | rfl | (simp only [List.length_drop, List.length_take]; rfl)) ?_; (with_reducible refine (impl_BayDo.calls t360 t361 t362 t363 t364 t366 t367 t368 t369 t370 _ A4.out).mono ?_); rintro e w10 ⟨rfl, hb⟩; refine ⟨_, rfl, ?_⟩; have n0_ := Aside0.mk (blk_below (g := gb365) (o := .cells #[.bool t360, .bool t361, .bool t362, .bool t363] 59 (0, 0)) (by (with_reducible repeat (first | refine blk_drewN ?_ _ | refine blk_drew ?_ | refine blk_alloc ?_ _)); refine blk_put (cs := #[.bool t360, .bool t361, .bool t362, .bool false]) ?_ 3 _ rfl; (with_reducible repeat (first | refine blk_drewN ?_ _ | refine blk_drew ?_ | refine blk_alloc ?_ _)); refine blk_put (cs := #[.bool t360, .bool t361, .bool false, .bool false]) ?_ 2 _ rfl; (with_reducible repeat (first | refine blk_drewN ?_ _ | refine blk_drew ?_ | refine blk_alloc ?_ _)); refine blk_put (cs := #[.bool t360, .bool false, .bool false, .bool false]) ?_ 1 _ rfl; (with_reducible repeat (first | refine blk_drewN ?_ _ | refine blk_drew ?_ | refine blk_alloc ?_ _)); refine blk_put (cs := #[.bool false, .bool false, .bool false, .bool false]) ?_ 0 _ rfl; (with_reducible repeat (first | refine blk_drewN ?_ _ | refine blk_drew ?_ | refine blk_alloc ?_ _)); exact BK365.out) hb); have n1_ := Aside0.mk (below_step bw hb); clear BK365 HB; have BK365 := n0_; have HB := n1_; clear n0_ n1_; (try clear hb); (try clear hb2); (try clear hk); (try clear hi); have TK3_ := Aside0.mk trivial) | (clear TK3_; (with_reducible refine gate_dst (N := 5) rfl ?_); refine box_event ?hg (N := 5) ?hd (cs := #[.bool false, .bool false, .bool false, .bool false]) (t := 59) ?hr ?_; (case hd => rfl); (case hg => rfl); (case hr => first | (go_simp; done) | (go_simp; rfl)); intro gb371 hg w11 hbox hb; have n0_ := bkB BK365 hb; have n1_ := Aside0.mk (below_step bw hb); have n2_ := Aside0.mk (hbox); have n3_ := Aside0.mk ((by rw [hg]; exact (below_size bw) : w.heap.size ≤ gb371)); have n4_ := Aside0.mk ((by rw [hg]; exact (below_size bw) : w.heap.size ≤ gb371)); have n5_ := Aside0.mk ((by rw [hg]; exact Nat.ne_of_lt (blk_lt (g := gb365) (o := .cells #[.bool t360, .bool t361, .bool t362, .bool t363] 59 (0, 0)) (bk BK365)) : gb365 ≠ gb371)); have n6_ := Aside0.mk ((by rw [hg]; exact Nat.ne_of_gt (blk_lt (g := gb365) (o := .cells #[.bool t360, .bool t361, .bool t362, .bool t363] 59 (0, 0)) (bk BK365)) : gb371 ≠ gb365)); clear BK365 HB; have BK365 := n0_; have HB := n1_; have BK371 := n2_; have GW371 := n3_; have GE371 := n4_; have NB365_371 := n5_; have NB371_365 := n6_; clear n0_ n1_ n2_ n3_ n4_ n5_ n6_; clear hb hbox hg; have hnb12 := NB371_365.out; have hnc12 := NB365_371.out; have hcz13_0 : w11.cell? ⟨gb371, 0, none⟩ = some (.bool false) := (blk_cell BK371.out 0).trans rfl; have hcz13_1 : w11.cell? ⟨gb371, 1, none⟩ = some (.bool false) := (blk_cell BK371.out 1).trans rfl; have hcz13_2 : w11.cell? ⟨gb371, 2, none⟩ = some (.bool false) := (blk_cell BK371.out 2).trans rfl; have hcz13_3 : w11.cell? ⟨gb371, 3, none⟩ = some (.bool false) := (blk_cell BK371.out 3).trans rfl; have hfz13_0 := blk_frozen BK371.out 0; have hfz13_1 := blk_frozen BK371.out 1; have hfz13_2 := blk_frozen BK371.out 2; have hfz13_3 := blk_frozen BK371.out 3; have hcz14_0 : w11.cell? ⟨gb365, 0, none⟩ = some (.bool t360) := (blk_cell BK365.out 0).trans rfl; have hcz14_1 : w11.cell? ⟨gb365, 1, none⟩ = some (.bool t361) := (blk_cell BK365.out 1).trans rfl; have hcz14_2 : w11.cell? ⟨gb365, 2, none⟩ = some (.bool t362) := (blk_cell BK365.out 2).trans rfl; have hcz14_3 : w11.cell? ⟨gb365, 3, none⟩ = some (.bool t363) := (blk_cell BK365.out 3).trans rfl; have hfz14_0 := blk_frozen BK365.out 0; have hfz14_1 := blk_frozen BK365.out 1; have hfz14_2 := blk_frozen BK365.out 2; have hfz14_3 := blk_frozen BK365.out 3; have TK4_ := Aside0.mk trivial) | (clear TK4_; (with_reducible refine gate_callee (f := 63) rfl ?_); refine goesL_ (some 28) rfl rfl Tryd.func63 (by kernel_rfl) rfl #[.agg #[.bool t360, .bool t361, .bool t362, .bool t363], .int .i64 t364] rfl (by (try simp only [List.map_toArray, List.map_cons, List.map_nil]); first | done | rfl | (simp only [List.length_drop, List.length_take]; rfl)) ?_; (with_reducible refine (spec_BayDo.calls t360 t361 t362 t363 t364 t372 t373 t374 t375 t376 _ A5.out).mono ?_); rintro e w15 ⟨rfl, hb⟩; refine ⟨_, rfl, ?_⟩; have n0_ := Aside0.mk (blk_below (g := gb365) (o := .cells #[.bool t360, .bool t361, .bool t362, .bool t363] 59 (0, 0)) (by (with_reducible repeat (first | refine blk_drewN ?_ _ | refine blk_drew ?_ | refine blk_alloc ?_ _)); refine blk_far ?_ NB365_371.out _; (with_reducible repeat (first | refine blk_drewN ?_ _ | refine blk_drew ?_ | refine blk_alloc ?_ _)); refine blk_far ?_ NB365_371.out _; (with_reducible repeat (first | refine blk_drewN ?_ _ | refine blk_drew ?_ | refine blk_alloc ?_ _)); refine blk_far ?_ NB365_371.out _; (with_reducible repeat (first | refine blk_drewN ?_ _ | refine blk_drew ?_ | refine blk_alloc ?_ _)); refine blk_far ?_ NB365_371.out _; (with_reducible repeat (first | refine blk_drewN ?_ _ | refine blk_drew ?_ | refine blk_alloc ?_ _)); exact BK365.out) hb); have n1_ := Aside0.mk (blk_below (g := gb371) (o := .cells #[.bool t366, .bool t367, .bool t368, .bool t369] 59 (0, 0)) (by (with_reducible repeat (first | refine blk_drewN ?_ _ | refine blk_drew ?_ | refine blk_alloc ?_ _)); refine blk_put (cs := #[.bool t366, .bool t367, .bool t368, .bool false]) ?_ 3 _ rfl; (with_reducible repeat (first | refine blk_drewN ?_ _ | refine blk_drew ?_ | refine blk_alloc ?_ _)); refine blk_put (cs := #[.bool t366, .bool t367, .bool false, .bool false]) ?_ 2 _ rfl; (with_reducible repeat (first | refine blk_drewN ?_ _ | refine blk_drew ?_ | refine blk_alloc ?_ _)); refine blk_put (cs := #[.bool t366, .bool false, .bool false, .bool false]) ?_ 1 _ rfl; (with_reducible repeat (first | refine blk_drewN ?_ _ | refine blk_drew ?_ | refine blk_alloc ?_ _)); refine blk_put (cs := #[.bool false, .bool false, .bool false, .bool false]) ?_ 0 _ rfl; (with_reducible repeat (first | refine blk_drewN ?_ _ | refine blk_drew ?_ | refine blk_alloc ?_ _)); exact BK371.out) hb); have n2_ := Aside0.mk (below_step bw hb); clear BK365 BK371 HB; have BK365 := n0_; have BK371 := n1_; have HB := n2_; clear n0_ n1_ n2_; (try clear hb); (try clear hb2); (try clear hk); (try clear hi); have TK5_ := Aside0.mk trivial) | (clear TK5_; (with_reducible refine gate_dst (N := 7) rfl ?_); refine box_event ?hg (N := 7) ?hd (cs := #[.bool false, .bool false, .bool false, .bool false]) (t := 59) ?hr ?_; (case hd => rfl); (case hg => rfl); (case hr => first | (go_simp; done) | (go_simp; rfl)); intro gb377 hg w16 hbox hb; have n0_ := bkB BK365 hb; have n1_ := bkB BK371 hb; have n2_ := Aside0.mk (below_step bw hb); have n3_ := Aside0.mk (hbox); have n4_ := Aside0.mk ((by rw [hg]; exact (below_size bw) : w.heap.size ≤ gb377)); have n5_ := Aside0.mk ((by rw [hg]; exact (below_size bw) : w.heap.size ≤ gb377)); have n6_ := Aside0.mk ((by rw [hg]; exact Nat.ne_of_lt (blk_lt (g := gb365) (o := .cells #[.bool t360, .bool t361, .bool t362, .bool t363] 59 (0, 0)) (bk BK365)) : gb365 ≠ gb377)); have n7_ := Aside0.mk ((by rw [hg]; exact Nat.ne_of_gt (blk_lt (g := gb365) (o := .cells #[.bool t360, .bool t361, .bool t362, .bool t363] 59 (0, 0)) (bk BK365)) : gb377 ≠ gb365)); have n8_ := Aside0.mk ((by rw [hg]; exact Nat.ne_of_lt (blk_lt (g := gb371) (o := .cells #[.bool t366, .bool t367, .bool t368, .bool t369] 59 (0, 0)) (bk BK371)) : gb371 ≠ gb377)); have n9_ := Aside0.mk ((by rw [hg]; exact Nat.ne_of_gt (blk_lt (g := gb371) (o := .cells #[.bool t366, .bool t367, .bool t368, .bool t369] 59 (0, 0)) (bk BK371)) : gb377 ≠ gb371)); clear BK365 BK371 HB; have BK365 := n0_; have BK371 := n1_; have HB := n2_; have BK377 := n3_; have GW377 := n4_; have GE377 := n5_; have NB365_377 := n6_; have NB377_365 := n7_; have NB371_377 := n8_; have NB377_371 := n9_; clear n0_ n1_ n2_ n3_ n4_ n5_ n6_ n7_ n8_ n9_; clear hb hbox hg; have hnb17 := NB377_365.out; have hnc17 := NB365_377.out; have hnb18 := NB377_371.out; have hnc18 := NB371_377.out; have hcz19_0 : w16.cell? ⟨gb377, 0, none⟩ = some (.bool false) := (blk_cell BK377.out 0).trans rfl; have hcz19_1 : w16.cell? ⟨gb377, 1, none⟩ = some (.bool false) := (blk_cell BK377.out 1).trans rfl; have hcz19_2 : w16.cell? ⟨gb377, 2, none⟩ = some (.bool false) := (blk_cell BK377.out 2).trans rfl; have hcz19_3 : w16.cell? ⟨gb377, 3, none⟩ = some (.bool false) := (blk_cell BK377.out 3).trans rfl; have hfz19_0 := blk_frozen BK377.out 0; have hfz19_1 := blk_frozen BK377.out 1; have hfz19_2 := blk_frozen BK377.out 2; have hfz19_3 := blk_frozen BK377.out 3; have TK6_ := Aside0.mk trivial))
  (try simp only [Act.put, List.setIfInBounds_toArray, List.set_cons_zero, List.set_cons_succ])
  go_cut [38] (fun v38 wc => ∃ (kq : Nat) (x38_5 : Bool), v38 = .bool x38_5 ∧ Aside0 (laws_FnBayDo.j0 kq t364 t370 x38_5 t360 t361 t362 t363 t366 t367 t368 t369 = some r) ∧ Aside0 (kq ≤ k) ∧ Aside0 (wc.heap[gb365]? = some (.cells #[.bool t360, .bool t361, .bool t362, .bool t363] 59 (0, 0))) ∧ Aside0 (wc.heap[gb371]? = some (.cells #[.bool t366, .bool t367, .bool t368, .bool t369] 59 (0, 0))) ∧ Aside0 (wc.heap[gb377]? = some (.cells #[.bool t372, .bool t373, .bool t374, .bool t375] 59 (0, 0))) ∧ Aside0 (Below w.heap.size w wc))
  case first =>
   have H := HC6.out
   clear HC6
   by_cases c20 : (!(t366 == t372) || (!(t367 == t373) || (!(t368 == t374) || (!(t369 == t375))))) = true
   ·rw [if_pos c20] at H
    have c20b0 : (!(t366 == t372) || (!(t367 == t373) || (!(t368 == t374) || (!(t369 == t375))))) = true := c20
    clear c20
    (first | rw [c20b0] | (simp only [i64_w, i32_w]; rw [c20b0]) | skip)
    have H' := Aside0.mk H
    clear H
    have hnb21 := NB371_365.out
    have hnc21 := NB365_371.out
    have hnb22 := NB371_377.out
    have hnc22 := NB377_371.out
    have hcz23_0 : w16.cell? ⟨gb371, 0, none⟩ = some (.bool t366) := (blk_cell BK371.out 0).trans rfl
    have hcz23_1 : w16.cell? ⟨gb371, 1, none⟩ = some (.bool t367) := (blk_cell BK371.out 1).trans rfl
    have hcz23_2 : w16.cell? ⟨gb371, 2, none⟩ = some (.bool t368) := (blk_cell BK371.out 2).trans rfl
    have hcz23_3 : w16.cell? ⟨gb371, 3, none⟩ = some (.bool t369) := (blk_cell BK371.out 3).trans rfl
    have hfz23_0 := blk_frozen BK371.out 0
    have hfz23_1 := blk_frozen BK371.out 1
    have hfz23_2 := blk_frozen BK371.out 2
    have hfz23_3 := blk_frozen BK371.out 3
    have hnb24 := NB377_365.out
    have hnc24 := NB365_377.out
    have hcz25_0 : w16.cell? ⟨gb377, 0, none⟩ = some (.bool false) := (blk_cell BK377.out 0).trans rfl
    have hcz25_1 : w16.cell? ⟨gb377, 1, none⟩ = some (.bool false) := (blk_cell BK377.out 1).trans rfl
    have hcz25_2 : w16.cell? ⟨gb377, 2, none⟩ = some (.bool false) := (blk_cell BK377.out 2).trans rfl
    have hcz25_3 : w16.cell? ⟨gb377, 3, none⟩ = some (.bool false) := (blk_cell BK377.out 3).trans rfl
    have hfz25_0 := blk_frozen BK377.out 0
    have hfz25_1 := blk_frozen BK377.out 1
    have hfz25_2 := blk_frozen BK377.out 2
    have hfz25_3 := blk_frozen BK377.out 3
    go_wp2
    go_meet
    case rel => exact ⟨_, (true), (by first | rfl | (simp; done) | (simp [*]; done)), H', ⟨by first | omega | exact Nat.le_refl _⟩, ⟨by (with_reducible repeat (first | refine blk_drewN ?_ _ | refine blk_drew ?_ | refine blk_alloc ?_ _)); refine blk_far ?_ NB365_377.out _; (with_reducible repeat (first | refine blk_drewN ?_ _ | refine blk_drew ?_ | refine blk_alloc ?_ _)); refine blk_far ?_ NB365_377.out _; (with_reducible repeat (first | refine blk_drewN ?_ _ | refine blk_drew ?_ | refine blk_alloc ?_ _)); refine blk_far ?_ NB365_377.out _; (with_reducible repeat (first | refine blk_drewN ?_ _ | refine blk_drew ?_ | refine blk_alloc ?_ _)); refine blk_far ?_ NB365_377.out _; (with_reducible repeat (first | refine blk_drewN ?_ _ | refine blk_drew ?_ | refine blk_alloc ?_ _)); exact BK365.out⟩, ⟨by (with_reducible repeat (first | refine blk_drewN ?_ _ | refine blk_drew ?_ | refine blk_alloc ?_ _)); refine blk_far ?_ NB371_377.out _; (with_reducible repeat (first | refine blk_drewN ?_ _ | refine blk_drew ?_ | refine blk_alloc ?_ _)); refine blk_far ?_ NB371_377.out _; (with_reducible repeat (first | refine blk_drewN ?_ _ | refine blk_drew ?_ | refine blk_alloc ?_ _)); refine blk_far ?_ NB371_377.out _; (with_reducible repeat (first | refine blk_drewN ?_ _ | refine blk_drew ?_ | refine blk_alloc ?_ _)); refine blk_far ?_ NB371_377.out _; (with_reducible repeat (first | refine blk_drewN ?_ _ | refine blk_drew ?_ | refine blk_alloc ?_ _)); exact BK371.out⟩, ⟨by (with_reducible repeat (first | refine blk_drewN ?_ _ | refine blk_drew ?_ | refine blk_alloc ?_ _)); refine blk_put (cs := #[.bool t372, .bool t373, .bool t374, .bool false]) ?_ 3 _ rfl; (with_reducible repeat (first | refine blk_drewN ?_ _ | refine blk_drew ?_ | refine blk_alloc ?_ _)); refine blk_put (cs := #[.bool t372, .bool t373, .bool false, .bool false]) ?_ 2 _ rfl; (with_reducible repeat (first | refine blk_drewN ?_ _ | refine blk_drew ?_ | refine blk_alloc ?_ _)); refine blk_put (cs := #[.bool t372, .bool false, .bool false, .bool false]) ?_ 1 _ rfl; (with_reducible repeat (first | refine blk_drewN ?_ _ | refine blk_drew ?_ | refine blk_alloc ?_ _)); refine blk_put (cs := #[.bool false, .bool false, .bool false, .bool false]) ?_ 0 _ rfl; (with_reducible repeat (first | refine blk_drewN ?_ _ | refine blk_drew ?_ | refine blk_alloc ?_ _)); exact BK377.out⟩, ⟨bw⟩⟩
   ·rw [if_neg c20] at H
    have c20b0 : (!(t366 == t372) || (!(t367 == t373) || (!(t368 == t374) || (!(t369 == t375))))) = false := by simpa using c20
    clear c20
    (first | rw [c20b0] | (simp only [i64_w, i32_w]; rw [c20b0]) | skip)
    have H' := Aside0.mk H
    clear H
    have hnb26 := NB371_365.out
    have hnc26 := NB365_371.out
    have hnb27 := NB371_377.out
    have hnc27 := NB377_371.out
    have hcz28_0 : w16.cell? ⟨gb371, 0, none⟩ = some (.bool t366) := (blk_cell BK371.out 0).trans rfl
    have hcz28_1 : w16.cell? ⟨gb371, 1, none⟩ = some (.bool t367) := (blk_cell BK371.out 1).trans rfl
    have hcz28_2 : w16.cell? ⟨gb371, 2, none⟩ = some (.bool t368) := (blk_cell BK371.out 2).trans rfl
    have hcz28_3 : w16.cell? ⟨gb371, 3, none⟩ = some (.bool t369) := (blk_cell BK371.out 3).trans rfl
    have hfz28_0 := blk_frozen BK371.out 0
    have hfz28_1 := blk_frozen BK371.out 1
    have hfz28_2 := blk_frozen BK371.out 2
    have hfz28_3 := blk_frozen BK371.out 3
    have hnb29 := NB377_365.out
    have hnc29 := NB365_377.out
    have hcz30_0 : w16.cell? ⟨gb377, 0, none⟩ = some (.bool false) := (blk_cell BK377.out 0).trans rfl
    have hcz30_1 : w16.cell? ⟨gb377, 1, none⟩ = some (.bool false) := (blk_cell BK377.out 1).trans rfl
    have hcz30_2 : w16.cell? ⟨gb377, 2, none⟩ = some (.bool false) := (blk_cell BK377.out 2).trans rfl
    have hcz30_3 : w16.cell? ⟨gb377, 3, none⟩ = some (.bool false) := (blk_cell BK377.out 3).trans rfl
    have hfz30_0 := blk_frozen BK377.out 0
    have hfz30_1 := blk_frozen BK377.out 1
    have hfz30_2 := blk_frozen BK377.out 2
    have hfz30_3 := blk_frozen BK377.out 3
    go_wp2
    go_meet
    case rel => exact ⟨_, ((t370 != t376)), (by first | rfl | (simp; done) | (simp [*]; done)), H', ⟨by first | omega | exact Nat.le_refl _⟩, ⟨by (with_reducible repeat (first | refine blk_drewN ?_ _ | refine blk_drew ?_ | refine blk_alloc ?_ _)); refine blk_far ?_ NB365_377.out _; (with_reducible repeat (first | refine blk_drewN ?_ _ | refine blk_drew ?_ | refine blk_alloc ?_ _)); refine blk_far ?_ NB365_377.out _; (with_reducible repeat (first | refine blk_drewN ?_ _ | refine blk_drew ?_ | refine blk_alloc ?_ _)); refine blk_far ?_ NB365_377.out _; (with_reducible repeat (first | refine blk_drewN ?_ _ | refine blk_drew ?_ | refine blk_alloc ?_ _)); refine blk_far ?_ NB365_377.out _; (with_reducible repeat (first | refine blk_drewN ?_ _ | refine blk_drew ?_ | refine blk_alloc ?_ _)); exact BK365.out⟩, ⟨by (with_reducible repeat (first | refine blk_drewN ?_ _ | refine blk_drew ?_ | refine blk_alloc ?_ _)); refine blk_far ?_ NB371_377.out _; (with_reducible repeat (first | refine blk_drewN ?_ _ | refine blk_drew ?_ | refine blk_alloc ?_ _)); refine blk_far ?_ NB371_377.out _; (with_reducible repeat (first | refine blk_drewN ?_ _ | refine blk_drew ?_ | refine blk_alloc ?_ _)); refine blk_far ?_ NB371_377.out _; (with_reducible repeat (first | refine blk_drewN ?_ _ | refine blk_drew ?_ | refine blk_alloc ?_ _)); refine blk_far ?_ NB371_377.out _; (with_reducible repeat (first | refine blk_drewN ?_ _ | refine blk_drew ?_ | refine blk_alloc ?_ _)); exact BK371.out⟩, ⟨by (with_reducible repeat (first | refine blk_drewN ?_ _ | refine blk_drew ?_ | refine blk_alloc ?_ _)); refine blk_put (cs := #[.bool t372, .bool t373, .bool t374, .bool false]) ?_ 3 _ rfl; (with_reducible repeat (first | refine blk_drewN ?_ _ | refine blk_drew ?_ | refine blk_alloc ?_ _)); refine blk_put (cs := #[.bool t372, .bool t373, .bool false, .bool false]) ?_ 2 _ rfl; (with_reducible repeat (first | refine blk_drewN ?_ _ | refine blk_drew ?_ | refine blk_alloc ?_ _)); refine blk_put (cs := #[.bool t372, .bool false, .bool false, .bool false]) ?_ 1 _ rfl; (with_reducible repeat (first | refine blk_drewN ?_ _ | refine blk_drew ?_ | refine blk_alloc ?_ _)); refine blk_put (cs := #[.bool false, .bool false, .bool false, .bool false]) ?_ 0 _ rfl; (with_reducible repeat (first | refine blk_drewN ?_ _ | refine blk_drew ?_ | refine blk_alloc ?_ _)); exact BK377.out⟩, ⟨bw⟩⟩
  case rest =>
   clear HC6
   try clear c1
   try clear c2
   try clear c2b0
   try clear c2b1
   try clear p2
   try clear c5
   try clear c6
   try clear c12
   try clear c13
   try clear c17
   try clear c18
   try clear c20
   try clear c20b0
   try clear c21
   try clear c22
   try clear c24
   try clear c26
   try clear c27
   try clear c29
   try clear hcz13_0
   try clear hcz13_1
   try clear hcz13_2
   try clear hcz13_3
   try clear hcz14_0
   try clear hcz14_1
   try clear hcz14_2
   try clear hcz14_3
   try clear hcz19_0
   try clear hcz19_1
   try clear hcz19_2
   try clear hcz19_3
   try clear hcz23_0
   try clear hcz23_1
   try clear hcz23_2
   try clear hcz23_3
   try clear hcz25_0
   try clear hcz25_1
   try clear hcz25_2
   try clear hcz25_3
   try clear hcz28_0
   try clear hcz28_1
   try clear hcz28_2
   try clear hcz28_3
   try clear hcz30_0
   try clear hcz30_1
   try clear hcz30_2
   try clear hcz30_3
   try clear hcz9_0
   try clear hcz9_1
   try clear hcz9_2
   try clear hcz9_3
   try clear hfz13_0
   try clear hfz13_1
   try clear hfz13_2
   try clear hfz13_3
   try clear hfz14_0
   try clear hfz14_1
   try clear hfz14_2
   try clear hfz14_3
   try clear hfz19_0
   try clear hfz19_1
   try clear hfz19_2
   try clear hfz19_3
   try clear hfz23_0
   try clear hfz23_1
   try clear hfz23_2
   try clear hfz23_3
   try clear hfz25_0
   try clear hfz25_1
   try clear hfz25_2
   try clear hfz25_3
   try clear hfz28_0
   try clear hfz28_1
   try clear hfz28_2
   try clear hfz28_3
   try clear hfz30_0
   try clear hfz30_1
   try clear hfz30_2
   try clear hfz30_3
   try clear hfz9_0
   try clear hfz9_1
   try clear hfz9_2
   try clear hfz9_3
   obtain ⟨kq, x38_5, rfl, HA, HJ5, BK365, BK371, BK377, HB⟩ := hcut
   cases kq with
   | zero => exact absurd HA.out (by simp [laws_FnBayDo.j0])
   | succ kj5 =>
    have H := HA.out
    clear HA
    simp only [laws_FnBayDo.j0] at H
    by_cases c31 : x38_5 = true
    ·subst c31
     have H1 : (some false) = some r := by rw [if_pos rfl] at H; exact H
     clear H
     have H := H1
     clear H1
     obtain rfl := Option.some.inj H
     go_wp2
     go_ret
     exact ⟨by first | rfl | (simp [errW_none, errW_some] <;> rfl) | (simp [*, errW_none, errW_some] <;> rfl), bw⟩
    ·replace c31 := Bool.eq_false_iff.mpr c31
     subst c31
     have H1 : (if t370 = true then ((impl_BayDo.f t366 t367 t368 t369 (wrap64 ((wrap64 (t364 + 1)) - (wrap64 (2 * (Int.tmod t364 2)))))).bind fun bt378 => (if (!(t366 == t360) || (!(t367 == t361) || (!(t368 == t362) || (!(t369 == t363))))) = true then ((impl_BaySafe.f t360 t361 t362 t363).bind fun t384 => (if t384 = true then (if bt378.2.2.2.2 = true then (some (bt378.1 == t360 && (bt378.2.1 == t361 && (bt378.2.2.1 == t362 && (bt378.2.2.2.1 == t363))))) else (some false)) else (some true))) else (some false))) else (if (t366 == t360 && (t367 == t361 && (t368 == t362 && (t369 == t363)))) = true then ((impl_BayMay.f t360 t361 t362 t363 t364).bind fun t385 => (if t385 = true then (some false) else ((laws_alive.f kj5).bind fun t386 => (some t386)))) else (some false))) = some r := by rw [if_neg (show ¬ (false = true) by decide)] at H; exact H
     clear H
     have H := H1
     clear H1
     by_cases c32 : t370 = true
     ·subst c32
      have H1 : ((impl_BayDo.f t366 t367 t368 t369 (wrap64 ((wrap64 (t364 + 1)) - (wrap64 (2 * (Int.tmod t364 2)))))).bind fun bt378 => (if (!(t366 == t360) || (!(t367 == t361) || (!(t368 == t362) || (!(t369 == t363))))) = true then ((impl_BaySafe.f t360 t361 t362 t363).bind fun t384 => (if t384 = true then (if bt378.2.2.2.2 = true then (some (bt378.1 == t360 && (bt378.2.1 == t361 && (bt378.2.2.1 == t362 && (bt378.2.2.2.1 == t363))))) else (some false)) else (some true))) else (some false))) = some r := by rw [if_pos rfl] at H; exact H
      clear H
      have H := H1
      clear H1
      replace H := Option.bind_eq_some_iff.mp H
      obtain ⟨⟨t378, t379, t380, t381, t382⟩, A330, H⟩ := H
      replace H : (if (!(t366 == t360) || (!(t367 == t361) || (!(t368 == t362) || (!(t369 == t363))))) = true then ((impl_BaySafe.f t360 t361 t362 t363).bind fun t384 => (if t384 = true then (if t382 = true then (some (t378 == t360 && (t379 == t361 && (t380 == t362 && (t381 == t363))))) else (some false)) else (some true))) else (some false)) = some r := H
      have A33 := Aside0.mk A330
      clear A330
      by_cases c34 : (!(t366 == t360) || (!(t367 == t361) || (!(t368 == t362) || (!(t369 == t363))))) = true
      ·rw [if_pos c34] at H
       have c34b0 : (!(t366 == t360) || (!(t367 == t361) || (!(t368 == t362) || (!(t369 == t363))))) = true := c34
       clear c34
       replace H := Option.bind_eq_some_iff.mp H
       obtain ⟨t384, A350, H⟩ := H
       replace H : (if t384 = true then (if t382 = true then (some (t378 == t360 && (t379 == t361 && (t380 == t362 && (t381 == t363))))) else (some false)) else (some true)) = some r := H
       have A35 := Aside0.mk A350
       clear A350
       by_cases c36 : t384 = true
       ·subst c36
        have H1 : (if t382 = true then (some (t378 == t360 && (t379 == t361 && (t380 == t362 && (t381 == t363))))) else (some false)) = some r := by rw [if_pos rfl] at H; exact H
        clear H
        have H := H1
        clear H1
        by_cases c37 : t382 = true
        ·subst c37
         have H1 : (some (t378 == t360 && (t379 == t361 && (t380 == t362 && (t381 == t363))))) = some r := by rw [if_pos rfl] at H; exact H
         clear H
         have H := H1
         clear H1
         obtain rfl := Option.some.inj H
         have hnb38 := NB371_365.out
         have hnc38 := NB365_371.out
         have hnb39 := NB371_377.out
         have hnc39 := NB377_371.out
         have hcz40_0 : wc.cell? ⟨gb371, 0, none⟩ = some (.bool t366) := (blk_cell BK371.out 0).trans rfl
         have hcz40_1 : wc.cell? ⟨gb371, 1, none⟩ = some (.bool t367) := (blk_cell BK371.out 1).trans rfl
         have hcz40_2 : wc.cell? ⟨gb371, 2, none⟩ = some (.bool t368) := (blk_cell BK371.out 2).trans rfl
         have hcz40_3 : wc.cell? ⟨gb371, 3, none⟩ = some (.bool t369) := (blk_cell BK371.out 3).trans rfl
         have hfz40_0 := blk_frozen BK371.out 0
         have hfz40_1 := blk_frozen BK371.out 1
         have hfz40_2 := blk_frozen BK371.out 2
         have hfz40_3 := blk_frozen BK371.out 3
         have TK0_ := Aside0.mk trivial
         go_wp2_with (first | (clear TK0_; (with_reducible refine gate_callee (f := 57) rfl ?_); refine goesL_ (some 61) rfl rfl Tryd.func57 (by kernel_rfl) rfl #[.agg #[.bool t366, .bool t367, .bool t368, .bool t369], .int .i64 (wrap64 ((wrap64 (t364 + 1)) - (wrap64 (2 * (Int.tmod t364 2)))))] rfl (by (try simp only [List.map_toArray, List.map_cons, List.map_nil]); first | done | rfl | (simp only [List.length_drop, List.length_take]; rfl)) ?_; (with_reducible refine (impl_BayDo.calls t366 t367 t368 t369 (wrap64 ((wrap64 (t364 + 1)) - (wrap64 (2 * (Int.tmod t364 2))))) t378 t379 t380 t381 true _ A33.out).mono ?_); rintro e w41 ⟨rfl, hb⟩; refine ⟨_, rfl, ?_⟩; have n0_ := bkB BK365 hb; have n1_ := bkB BK371 hb; have n2_ := bkB BK377 hb; have n3_ := Aside0.mk (below_step bw hb); clear BK365 BK371 BK377 HB; have BK365 := n0_; have BK371 := n1_; have BK377 := n2_; have HB := n3_; clear n0_ n1_ n2_ n3_; (try clear hb); (try clear hb2); (try clear hk); (try clear hi); have TK1_ := Aside0.mk trivial) | (clear TK1_; (with_reducible refine gate_dst (N := 9) rfl ?_); refine box_event ?hg (N := 9) ?hd (cs := #[.bool false, .bool false, .bool false, .bool false]) (t := 59) ?hr ?_; (case hd => rfl); (case hg => rfl); (case hr => first | (go_simp; done) | (go_simp; rfl)); intro gb383 hg w42 hbox hb; have n0_ := bkB BK365 hb; have n1_ := bkB BK371 hb; have n2_ := bkB BK377 hb; have n3_ := Aside0.mk (below_step bw hb); have n4_ := Aside0.mk (hbox); have n5_ := Aside0.mk ((by rw [hg]; exact (below_size bw) : w.heap.size ≤ gb383)); have n6_ := Aside0.mk ((by rw [hg]; exact (below_size bw) : w.heap.size ≤ gb383)); have n7_ := Aside0.mk ((by rw [hg]; exact Nat.ne_of_lt (blk_lt (g := gb365) (o := .cells #[.bool t360, .bool t361, .bool t362, .bool t363] 59 (0, 0)) (bk BK365)) : gb365 ≠ gb383)); have n8_ := Aside0.mk ((by rw [hg]; exact Nat.ne_of_gt (blk_lt (g := gb365) (o := .cells #[.bool t360, .bool t361, .bool t362, .bool t363] 59 (0, 0)) (bk BK365)) : gb383 ≠ gb365)); have n9_ := Aside0.mk ((by rw [hg]; exact Nat.ne_of_lt (blk_lt (g := gb371) (o := .cells #[.bool t366, .bool t367, .bool t368, .bool t369] 59 (0, 0)) (bk BK371)) : gb371 ≠ gb383)); have n10_ := Aside0.mk ((by rw [hg]; exact Nat.ne_of_gt (blk_lt (g := gb371) (o := .cells #[.bool t366, .bool t367, .bool t368, .bool t369] 59 (0, 0)) (bk BK371)) : gb383 ≠ gb371)); have n11_ := Aside0.mk ((by rw [hg]; exact Nat.ne_of_lt (blk_lt (g := gb377) (o := .cells #[.bool t372, .bool t373, .bool t374, .bool t375] 59 (0, 0)) (bk BK377)) : gb377 ≠ gb383)); have n12_ := Aside0.mk ((by rw [hg]; exact Nat.ne_of_gt (blk_lt (g := gb377) (o := .cells #[.bool t372, .bool t373, .bool t374, .bool t375] 59 (0, 0)) (bk BK377)) : gb383 ≠ gb377)); clear BK365 BK371 BK377 HB; have BK365 := n0_; have BK371 := n1_; have BK377 := n2_; have HB := n3_; have BK383 := n4_; have GW383 := n5_; have GE383 := n6_; have NB365_383 := n7_; have NB383_365 := n8_; have NB371_383 := n9_; have NB383_371 := n10_; have NB377_383 := n11_; have NB383_377 := n12_; clear n0_ n1_ n2_ n3_ n4_ n5_ n6_ n7_ n8_ n9_ n10_ n11_ n12_; clear hb hbox hg; have hnb43 := NB383_365.out; have hnc43 := NB365_383.out; have hnb44 := NB383_371.out; have hnc44 := NB371_383.out; have hnb45 := NB383_377.out; have hnc45 := NB377_383.out; have hcz46_0 : w42.cell? ⟨gb383, 0, none⟩ = some (.bool false) := (blk_cell BK383.out 0).trans rfl; have hcz46_1 : w42.cell? ⟨gb383, 1, none⟩ = some (.bool false) := (blk_cell BK383.out 1).trans rfl; have hcz46_2 : w42.cell? ⟨gb383, 2, none⟩ = some (.bool false) := (blk_cell BK383.out 2).trans rfl; have hcz46_3 : w42.cell? ⟨gb383, 3, none⟩ = some (.bool false) := (blk_cell BK383.out 3).trans rfl; have hfz46_0 := blk_frozen BK383.out 0; have hfz46_1 := blk_frozen BK383.out 1; have hfz46_2 := blk_frozen BK383.out 2; have hfz46_3 := blk_frozen BK383.out 3; have hcz47_0 : w42.cell? ⟨gb371, 0, none⟩ = some (.bool t366) := (blk_cell BK371.out 0).trans rfl; have hcz47_1 : w42.cell? ⟨gb371, 1, none⟩ = some (.bool t367) := (blk_cell BK371.out 1).trans rfl; have hcz47_2 : w42.cell? ⟨gb371, 2, none⟩ = some (.bool t368) := (blk_cell BK371.out 2).trans rfl; have hcz47_3 : w42.cell? ⟨gb371, 3, none⟩ = some (.bool t369) := (blk_cell BK371.out 3).trans rfl; have hfz47_0 := blk_frozen BK371.out 0; have hfz47_1 := blk_frozen BK371.out 1; have hfz47_2 := blk_frozen BK371.out 2; have hfz47_3 := blk_frozen BK371.out 3; have hnb48 := NB365_377.out; have hnc48 := NB377_365.out; have hcz49_0 : w42.cell? ⟨gb365, 0, none⟩ = some (.bool t360) := (blk_cell BK365.out 0).trans rfl; have hcz49_1 : w42.cell? ⟨gb365, 1, none⟩ = some (.bool t361) := (blk_cell BK365.out 1).trans rfl; have hcz49_2 : w42.cell? ⟨gb365, 2, none⟩ = some (.bool t362) := (blk_cell BK365.out 2).trans rfl; have hcz49_3 : w42.cell? ⟨gb365, 3, none⟩ = some (.bool t363) := (blk_cell BK365.out 3).trans rfl; have hfz49_0 := blk_frozen BK365.out 0; have hfz49_1 := blk_frozen BK365.out 1; have hfz49_2 := blk_frozen BK365.out 2; have hfz49_3 := blk_frozen BK365.out 3; have TK2_ := Aside0.mk trivial) | (clear TK2_; go_at_call 43; (with_reducible refine (impl_BaySafe.calls t360 t361 t362 t363 true _ A35.out).mono ?_); rintro e w50 ⟨rfl, hb⟩; have n0_ := Aside0.mk (blk_below (g := gb365) (o := .cells #[.bool t360, .bool t361, .bool t362, .bool t363] 59 (0, 0)) (by (with_reducible repeat (first | refine blk_drewN ?_ _ | refine blk_drew ?_ | refine blk_alloc ?_ _)); refine blk_far ?_ NB365_383.out _; (with_reducible repeat (first | refine blk_drewN ?_ _ | refine blk_drew ?_ | refine blk_alloc ?_ _)); refine blk_far ?_ NB365_383.out _; (with_reducible repeat (first | refine blk_drewN ?_ _ | refine blk_drew ?_ | refine blk_alloc ?_ _)); refine blk_far ?_ NB365_383.out _; (with_reducible repeat (first | refine blk_drewN ?_ _ | refine blk_drew ?_ | refine blk_alloc ?_ _)); refine blk_far ?_ NB365_383.out _; (with_reducible repeat (first | refine blk_drewN ?_ _ | refine blk_drew ?_ | refine blk_alloc ?_ _)); exact BK365.out) hb); have n1_ := Aside0.mk (blk_below (g := gb371) (o := .cells #[.bool t366, .bool t367, .bool t368, .bool t369] 59 (0, 0)) (by (with_reducible repeat (first | refine blk_drewN ?_ _ | refine blk_drew ?_ | refine blk_alloc ?_ _)); refine blk_far ?_ NB371_383.out _; (with_reducible repeat (first | refine blk_drewN ?_ _ | refine blk_drew ?_ | refine blk_alloc ?_ _)); refine blk_far ?_ NB371_383.out _; (with_reducible repeat (first | refine blk_drewN ?_ _ | refine blk_drew ?_ | refine blk_alloc ?_ _)); refine blk_far ?_ NB371_383.out _; (with_reducible repeat (first | refine blk_drewN ?_ _ | refine blk_drew ?_ | refine blk_alloc ?_ _)); refine blk_far ?_ NB371_383.out _; (with_reducible repeat (first | refine blk_drewN ?_ _ | refine blk_drew ?_ | refine blk_alloc ?_ _)); exact BK371.out) hb); have n2_ := Aside0.mk (blk_below (g := gb377) (o := .cells #[.bool t372, .bool t373, .bool t374, .bool t375] 59 (0, 0)) (by (with_reducible repeat (first | refine blk_drewN ?_ _ | refine blk_drew ?_ | refine blk_alloc ?_ _)); refine blk_far ?_ NB377_383.out _; (with_reducible repeat (first | refine blk_drewN ?_ _ | refine blk_drew ?_ | refine blk_alloc ?_ _)); refine blk_far ?_ NB377_383.out _; (with_reducible repeat (first | refine blk_drewN ?_ _ | refine blk_drew ?_ | refine blk_alloc ?_ _)); refine blk_far ?_ NB377_383.out _; (with_reducible repeat (first | refine blk_drewN ?_ _ | refine blk_drew ?_ | refine blk_alloc ?_ _)); refine blk_far ?_ NB377_383.out _; (with_reducible repeat (first | refine blk_drewN ?_ _ | refine blk_drew ?_ | refine blk_alloc ?_ _)); exact BK377.out) hb); have n3_ := Aside0.mk (blk_below (g := gb383) (o := .cells #[.bool t378, .bool t379, .bool t380, .bool t381] 59 (0, 0)) (by (with_reducible repeat (first | refine blk_drewN ?_ _ | refine blk_drew ?_ | refine blk_alloc ?_ _)); refine blk_put (cs := #[.bool t378, .bool t379, .bool t380, .bool false]) ?_ 3 _ rfl; (with_reducible repeat (first | refine blk_drewN ?_ _ | refine blk_drew ?_ | refine blk_alloc ?_ _)); refine blk_put (cs := #[.bool t378, .bool t379, .bool false, .bool false]) ?_ 2 _ rfl; (with_reducible repeat (first | refine blk_drewN ?_ _ | refine blk_drew ?_ | refine blk_alloc ?_ _)); refine blk_put (cs := #[.bool t378, .bool false, .bool false, .bool false]) ?_ 1 _ rfl; (with_reducible repeat (first | refine blk_drewN ?_ _ | refine blk_drew ?_ | refine blk_alloc ?_ _)); refine blk_put (cs := #[.bool false, .bool false, .bool false, .bool false]) ?_ 0 _ rfl; (with_reducible repeat (first | refine blk_drewN ?_ _ | refine blk_drew ?_ | refine blk_alloc ?_ _)); exact BK383.out) hb); have n4_ := Aside0.mk (below_step bw hb); clear BK365 BK371 BK377 BK383 HB; have BK365 := n0_; have BK371 := n1_; have BK377 := n2_; have BK383 := n3_; have HB := n4_; clear n0_ n1_ n2_ n3_ n4_; (try clear hb); (try clear hb2); (try clear hk); (try clear hi); have hcz51_0 : w50.cell? ⟨gb383, 0, none⟩ = some (.bool t378) := (blk_cell BK383.out 0).trans rfl; have hcz51_1 : w50.cell? ⟨gb383, 1, none⟩ = some (.bool t379) := (blk_cell BK383.out 1).trans rfl; have hcz51_2 : w50.cell? ⟨gb383, 2, none⟩ = some (.bool t380) := (blk_cell BK383.out 2).trans rfl; have hcz51_3 : w50.cell? ⟨gb383, 3, none⟩ = some (.bool t381) := (blk_cell BK383.out 3).trans rfl; have hfz51_0 := blk_frozen BK383.out 0; have hfz51_1 := blk_frozen BK383.out 1; have hfz51_2 := blk_frozen BK383.out 2; have hfz51_3 := blk_frozen BK383.out 3; have hcz52_0 : w50.cell? ⟨gb365, 0, none⟩ = some (.bool t360) := (blk_cell BK365.out 0).trans rfl; have hcz52_1 : w50.cell? ⟨gb365, 1, none⟩ = some (.bool t361) := (blk_cell BK365.out 1).trans rfl; have hcz52_2 : w50.cell? ⟨gb365, 2, none⟩ = some (.bool t362) := (blk_cell BK365.out 2).trans rfl; have hcz52_3 : w50.cell? ⟨gb365, 3, none⟩ = some (.bool t363) := (blk_cell BK365.out 3).trans rfl; have hfz52_0 := blk_frozen BK365.out 0; have hfz52_1 := blk_frozen BK365.out 1; have hfz52_2 := blk_frozen BK365.out 2; have hfz52_3 := blk_frozen BK365.out 3; have TK3_ := Aside0.mk trivial))
         go_ret
         exact ⟨by first | rfl | (simp [errW_none, errW_some] <;> rfl) | (simp [*, errW_none, errW_some] <;> rfl), bw⟩
        ·replace c37 := Bool.eq_false_iff.mpr c37
         subst c37
         have H1 : (some false) = some r := by rw [if_neg (show ¬ (false = true) by decide)] at H; exact H
         clear H
         have H := H1
         clear H1
         obtain rfl := Option.some.inj H
         have hnb53 := NB371_365.out
         have hnc53 := NB365_371.out
         have hnb54 := NB371_377.out
         have hnc54 := NB377_371.out
         have hcz55_0 : wc.cell? ⟨gb371, 0, none⟩ = some (.bool t366) := (blk_cell BK371.out 0).trans rfl
         have hcz55_1 : wc.cell? ⟨gb371, 1, none⟩ = some (.bool t367) := (blk_cell BK371.out 1).trans rfl
         have hcz55_2 : wc.cell? ⟨gb371, 2, none⟩ = some (.bool t368) := (blk_cell BK371.out 2).trans rfl
         have hcz55_3 : wc.cell? ⟨gb371, 3, none⟩ = some (.bool t369) := (blk_cell BK371.out 3).trans rfl
         have hfz55_0 := blk_frozen BK371.out 0
         have hfz55_1 := blk_frozen BK371.out 1
         have hfz55_2 := blk_frozen BK371.out 2
         have hfz55_3 := blk_frozen BK371.out 3
         have TK0_ := Aside0.mk trivial
         go_wp2_with (first | (clear TK0_; (with_reducible refine gate_callee (f := 57) rfl ?_); refine goesL_ (some 61) rfl rfl Tryd.func57 (by kernel_rfl) rfl #[.agg #[.bool t366, .bool t367, .bool t368, .bool t369], .int .i64 (wrap64 ((wrap64 (t364 + 1)) - (wrap64 (2 * (Int.tmod t364 2)))))] rfl (by (try simp only [List.map_toArray, List.map_cons, List.map_nil]); first | done | rfl | (simp only [List.length_drop, List.length_take]; rfl)) ?_; (with_reducible refine (impl_BayDo.calls t366 t367 t368 t369 (wrap64 ((wrap64 (t364 + 1)) - (wrap64 (2 * (Int.tmod t364 2))))) t378 t379 t380 t381 false _ A33.out).mono ?_); rintro e w56 ⟨rfl, hb⟩; refine ⟨_, rfl, ?_⟩; have n0_ := bkB BK365 hb; have n1_ := bkB BK371 hb; have n2_ := bkB BK377 hb; have n3_ := Aside0.mk (below_step bw hb); clear BK365 BK371 BK377 HB; have BK365 := n0_; have BK371 := n1_; have BK377 := n2_; have HB := n3_; clear n0_ n1_ n2_ n3_; (try clear hb); (try clear hb2); (try clear hk); (try clear hi); have TK1_ := Aside0.mk trivial) | (clear TK1_; (with_reducible refine gate_dst (N := 9) rfl ?_); refine box_event ?hg (N := 9) ?hd (cs := #[.bool false, .bool false, .bool false, .bool false]) (t := 59) ?hr ?_; (case hd => rfl); (case hg => rfl); (case hr => first | (go_simp; done) | (go_simp; rfl)); intro gb383 hg w57 hbox hb; have n0_ := bkB BK365 hb; have n1_ := bkB BK371 hb; have n2_ := bkB BK377 hb; have n3_ := Aside0.mk (below_step bw hb); have n4_ := Aside0.mk (hbox); have n5_ := Aside0.mk ((by rw [hg]; exact (below_size bw) : w.heap.size ≤ gb383)); have n6_ := Aside0.mk ((by rw [hg]; exact (below_size bw) : w.heap.size ≤ gb383)); have n7_ := Aside0.mk ((by rw [hg]; exact Nat.ne_of_lt (blk_lt (g := gb365) (o := .cells #[.bool t360, .bool t361, .bool t362, .bool t363] 59 (0, 0)) (bk BK365)) : gb365 ≠ gb383)); have n8_ := Aside0.mk ((by rw [hg]; exact Nat.ne_of_gt (blk_lt (g := gb365) (o := .cells #[.bool t360, .bool t361, .bool t362, .bool t363] 59 (0, 0)) (bk BK365)) : gb383 ≠ gb365)); have n9_ := Aside0.mk ((by rw [hg]; exact Nat.ne_of_lt (blk_lt (g := gb371) (o := .cells #[.bool t366, .bool t367, .bool t368, .bool t369] 59 (0, 0)) (bk BK371)) : gb371 ≠ gb383)); have n10_ := Aside0.mk ((by rw [hg]; exact Nat.ne_of_gt (blk_lt (g := gb371) (o := .cells #[.bool t366, .bool t367, .bool t368, .bool t369] 59 (0, 0)) (bk BK371)) : gb383 ≠ gb371)); have n11_ := Aside0.mk ((by rw [hg]; exact Nat.ne_of_lt (blk_lt (g := gb377) (o := .cells #[.bool t372, .bool t373, .bool t374, .bool t375] 59 (0, 0)) (bk BK377)) : gb377 ≠ gb383)); have n12_ := Aside0.mk ((by rw [hg]; exact Nat.ne_of_gt (blk_lt (g := gb377) (o := .cells #[.bool t372, .bool t373, .bool t374, .bool t375] 59 (0, 0)) (bk BK377)) : gb383 ≠ gb377)); clear BK365 BK371 BK377 HB; have BK365 := n0_; have BK371 := n1_; have BK377 := n2_; have HB := n3_; have BK383 := n4_; have GW383 := n5_; have GE383 := n6_; have NB365_383 := n7_; have NB383_365 := n8_; have NB371_383 := n9_; have NB383_371 := n10_; have NB377_383 := n11_; have NB383_377 := n12_; clear n0_ n1_ n2_ n3_ n4_ n5_ n6_ n7_ n8_ n9_ n10_ n11_ n12_; clear hb hbox hg; have hnb58 := NB383_365.out; have hnc58 := NB365_383.out; have hnb59 := NB383_371.out; have hnc59 := NB371_383.out; have hnb60 := NB383_377.out; have hnc60 := NB377_383.out; have hcz61_0 : w57.cell? ⟨gb383, 0, none⟩ = some (.bool false) := (blk_cell BK383.out 0).trans rfl; have hcz61_1 : w57.cell? ⟨gb383, 1, none⟩ = some (.bool false) := (blk_cell BK383.out 1).trans rfl; have hcz61_2 : w57.cell? ⟨gb383, 2, none⟩ = some (.bool false) := (blk_cell BK383.out 2).trans rfl; have hcz61_3 : w57.cell? ⟨gb383, 3, none⟩ = some (.bool false) := (blk_cell BK383.out 3).trans rfl; have hfz61_0 := blk_frozen BK383.out 0; have hfz61_1 := blk_frozen BK383.out 1; have hfz61_2 := blk_frozen BK383.out 2; have hfz61_3 := blk_frozen BK383.out 3; have hcz62_0 : w57.cell? ⟨gb371, 0, none⟩ = some (.bool t366) := (blk_cell BK371.out 0).trans rfl; have hcz62_1 : w57.cell? ⟨gb371, 1, none⟩ = some (.bool t367) := (blk_cell BK371.out 1).trans rfl; have hcz62_2 : w57.cell? ⟨gb371, 2, none⟩ = some (.bool t368) := (blk_cell BK371.out 2).trans rfl; have hcz62_3 : w57.cell? ⟨gb371, 3, none⟩ = some (.bool t369) := (blk_cell BK371.out 3).trans rfl; have hfz62_0 := blk_frozen BK371.out 0; have hfz62_1 := blk_frozen BK371.out 1; have hfz62_2 := blk_frozen BK371.out 2; have hfz62_3 := blk_frozen BK371.out 3; have hnb63 := NB365_377.out; have hnc63 := NB377_365.out; have hcz64_0 : w57.cell? ⟨gb365, 0, none⟩ = some (.bool t360) := (blk_cell BK365.out 0).trans rfl; have hcz64_1 : w57.cell? ⟨gb365, 1, none⟩ = some (.bool t361) := (blk_cell BK365.out 1).trans rfl; have hcz64_2 : w57.cell? ⟨gb365, 2, none⟩ = some (.bool t362) := (blk_cell BK365.out 2).trans rfl; have hcz64_3 : w57.cell? ⟨gb365, 3, none⟩ = some (.bool t363) := (blk_cell BK365.out 3).trans rfl; have hfz64_0 := blk_frozen BK365.out 0; have hfz64_1 := blk_frozen BK365.out 1; have hfz64_2 := blk_frozen BK365.out 2; have hfz64_3 := blk_frozen BK365.out 3; have TK2_ := Aside0.mk trivial) | (clear TK2_; go_at_call 43; (with_reducible refine (impl_BaySafe.calls t360 t361 t362 t363 true _ A35.out).mono ?_); rintro e w65 ⟨rfl, hb⟩; have n0_ := Aside0.mk (blk_below (g := gb365) (o := .cells #[.bool t360, .bool t361, .bool t362, .bool t363] 59 (0, 0)) (by (with_reducible repeat (first | refine blk_drewN ?_ _ | refine blk_drew ?_ | refine blk_alloc ?_ _)); refine blk_far ?_ NB365_383.out _; (with_reducible repeat (first | refine blk_drewN ?_ _ | refine blk_drew ?_ | refine blk_alloc ?_ _)); refine blk_far ?_ NB365_383.out _; (with_reducible repeat (first | refine blk_drewN ?_ _ | refine blk_drew ?_ | refine blk_alloc ?_ _)); refine blk_far ?_ NB365_383.out _; (with_reducible repeat (first | refine blk_drewN ?_ _ | refine blk_drew ?_ | refine blk_alloc ?_ _)); refine blk_far ?_ NB365_383.out _; (with_reducible repeat (first | refine blk_drewN ?_ _ | refine blk_drew ?_ | refine blk_alloc ?_ _)); exact BK365.out) hb); have n1_ := Aside0.mk (blk_below (g := gb371) (o := .cells #[.bool t366, .bool t367, .bool t368, .bool t369] 59 (0, 0)) (by (with_reducible repeat (first | refine blk_drewN ?_ _ | refine blk_drew ?_ | refine blk_alloc ?_ _)); refine blk_far ?_ NB371_383.out _; (with_reducible repeat (first | refine blk_drewN ?_ _ | refine blk_drew ?_ | refine blk_alloc ?_ _)); refine blk_far ?_ NB371_383.out _; (with_reducible repeat (first | refine blk_drewN ?_ _ | refine blk_drew ?_ | refine blk_alloc ?_ _)); refine blk_far ?_ NB371_383.out _; (with_reducible repeat (first | refine blk_drewN ?_ _ | refine blk_drew ?_ | refine blk_alloc ?_ _)); refine blk_far ?_ NB371_383.out _; (with_reducible repeat (first | refine blk_drewN ?_ _ | refine blk_drew ?_ | refine blk_alloc ?_ _)); exact BK371.out) hb); have n2_ := Aside0.mk (blk_below (g := gb377) (o := .cells #[.bool t372, .bool t373, .bool t374, .bool t375] 59 (0, 0)) (by (with_reducible repeat (first | refine blk_drewN ?_ _ | refine blk_drew ?_ | refine blk_alloc ?_ _)); refine blk_far ?_ NB377_383.out _; (with_reducible repeat (first | refine blk_drewN ?_ _ | refine blk_drew ?_ | refine blk_alloc ?_ _)); refine blk_far ?_ NB377_383.out _; (with_reducible repeat (first | refine blk_drewN ?_ _ | refine blk_drew ?_ | refine blk_alloc ?_ _)); refine blk_far ?_ NB377_383.out _; (with_reducible repeat (first | refine blk_drewN ?_ _ | refine blk_drew ?_ | refine blk_alloc ?_ _)); refine blk_far ?_ NB377_383.out _; (with_reducible repeat (first | refine blk_drewN ?_ _ | refine blk_drew ?_ | refine blk_alloc ?_ _)); exact BK377.out) hb); have n3_ := Aside0.mk (blk_below (g := gb383) (o := .cells #[.bool t378, .bool t379, .bool t380, .bool t381] 59 (0, 0)) (by (with_reducible repeat (first | refine blk_drewN ?_ _ | refine blk_drew ?_ | refine blk_alloc ?_ _)); refine blk_put (cs := #[.bool t378, .bool t379, .bool t380, .bool false]) ?_ 3 _ rfl; (with_reducible repeat (first | refine blk_drewN ?_ _ | refine blk_drew ?_ | refine blk_alloc ?_ _)); refine blk_put (cs := #[.bool t378, .bool t379, .bool false, .bool false]) ?_ 2 _ rfl; (with_reducible repeat (first | refine blk_drewN ?_ _ | refine blk_drew ?_ | refine blk_alloc ?_ _)); refine blk_put (cs := #[.bool t378, .bool false, .bool false, .bool false]) ?_ 1 _ rfl; (with_reducible repeat (first | refine blk_drewN ?_ _ | refine blk_drew ?_ | refine blk_alloc ?_ _)); refine blk_put (cs := #[.bool false, .bool false, .bool false, .bool false]) ?_ 0 _ rfl; (with_reducible repeat (first | refine blk_drewN ?_ _ | refine blk_drew ?_ | refine blk_alloc ?_ _)); exact BK383.out) hb); have n4_ := Aside0.mk (below_step bw hb); clear BK365 BK371 BK377 BK383 HB; have BK365 := n0_; have BK371 := n1_; have BK377 := n2_; have BK383 := n3_; have HB := n4_; clear n0_ n1_ n2_ n3_ n4_; (try clear hb); (try clear hb2); (try clear hk); (try clear hi); have TK3_ := Aside0.mk trivial))
         go_ret
         exact ⟨by first | rfl | (simp [errW_none, errW_some] <;> rfl) | (simp [*, errW_none, errW_some] <;> rfl), bw⟩
       ·replace c36 := Bool.eq_false_iff.mpr c36
        subst c36
        have H1 : (some true) = some r := by rw [if_neg (show ¬ (false = true) by decide)] at H; exact H
        clear H
        have H := H1
        clear H1
        obtain rfl := Option.some.inj H
        have hnb66 := NB371_365.out
        have hnc66 := NB365_371.out
        have hnb67 := NB371_377.out
        have hnc67 := NB377_371.out
        have hcz68_0 : wc.cell? ⟨gb371, 0, none⟩ = some (.bool t366) := (blk_cell BK371.out 0).trans rfl
        have hcz68_1 : wc.cell? ⟨gb371, 1, none⟩ = some (.bool t367) := (blk_cell BK371.out 1).trans rfl
        have hcz68_2 : wc.cell? ⟨gb371, 2, none⟩ = some (.bool t368) := (blk_cell BK371.out 2).trans rfl
        have hcz68_3 : wc.cell? ⟨gb371, 3, none⟩ = some (.bool t369) := (blk_cell BK371.out 3).trans rfl
        have hfz68_0 := blk_frozen BK371.out 0
        have hfz68_1 := blk_frozen BK371.out 1
        have hfz68_2 := blk_frozen BK371.out 2
        have hfz68_3 := blk_frozen BK371.out 3
        have TK0_ := Aside0.mk trivial
        go_wp2_with (first | (clear TK0_; (with_reducible refine gate_callee (f := 57) rfl ?_); refine goesL_ (some 61) rfl rfl Tryd.func57 (by kernel_rfl) rfl #[.agg #[.bool t366, .bool t367, .bool t368, .bool t369], .int .i64 (wrap64 ((wrap64 (t364 + 1)) - (wrap64 (2 * (Int.tmod t364 2)))))] rfl (by (try simp only [List.map_toArray, List.map_cons, List.map_nil]); first | done | rfl | (simp only [List.length_drop, List.length_take]; rfl)) ?_; (with_reducible refine (impl_BayDo.calls t366 t367 t368 t369 (wrap64 ((wrap64 (t364 + 1)) - (wrap64 (2 * (Int.tmod t364 2))))) t378 t379 t380 t381 t382 _ A33.out).mono ?_); rintro e w69 ⟨rfl, hb⟩; refine ⟨_, rfl, ?_⟩; have n0_ := bkB BK365 hb; have n1_ := bkB BK371 hb; have n2_ := bkB BK377 hb; have n3_ := Aside0.mk (below_step bw hb); clear BK365 BK371 BK377 HB; have BK365 := n0_; have BK371 := n1_; have BK377 := n2_; have HB := n3_; clear n0_ n1_ n2_ n3_; (try clear hb); (try clear hb2); (try clear hk); (try clear hi); have TK1_ := Aside0.mk trivial) | (clear TK1_; (with_reducible refine gate_dst (N := 9) rfl ?_); refine box_event ?hg (N := 9) ?hd (cs := #[.bool false, .bool false, .bool false, .bool false]) (t := 59) ?hr ?_; (case hd => rfl); (case hg => rfl); (case hr => first | (go_simp; done) | (go_simp; rfl)); intro gb383 hg w70 hbox hb; have n0_ := bkB BK365 hb; have n1_ := bkB BK371 hb; have n2_ := bkB BK377 hb; have n3_ := Aside0.mk (below_step bw hb); have n4_ := Aside0.mk (hbox); have n5_ := Aside0.mk ((by rw [hg]; exact (below_size bw) : w.heap.size ≤ gb383)); have n6_ := Aside0.mk ((by rw [hg]; exact (below_size bw) : w.heap.size ≤ gb383)); have n7_ := Aside0.mk ((by rw [hg]; exact Nat.ne_of_lt (blk_lt (g := gb365) (o := .cells #[.bool t360, .bool t361, .bool t362, .bool t363] 59 (0, 0)) (bk BK365)) : gb365 ≠ gb383)); have n8_ := Aside0.mk ((by rw [hg]; exact Nat.ne_of_gt (blk_lt (g := gb365) (o := .cells #[.bool t360, .bool t361, .bool t362, .bool t363] 59 (0, 0)) (bk BK365)) : gb383 ≠ gb365)); have n9_ := Aside0.mk ((by rw [hg]; exact Nat.ne_of_lt (blk_lt (g := gb371) (o := .cells #[.bool t366, .bool t367, .bool t368, .bool t369] 59 (0, 0)) (bk BK371)) : gb371 ≠ gb383)); have n10_ := Aside0.mk ((by rw [hg]; exact Nat.ne_of_gt (blk_lt (g := gb371) (o := .cells #[.bool t366, .bool t367, .bool t368, .bool t369] 59 (0, 0)) (bk BK371)) : gb383 ≠ gb371)); have n11_ := Aside0.mk ((by rw [hg]; exact Nat.ne_of_lt (blk_lt (g := gb377) (o := .cells #[.bool t372, .bool t373, .bool t374, .bool t375] 59 (0, 0)) (bk BK377)) : gb377 ≠ gb383)); have n12_ := Aside0.mk ((by rw [hg]; exact Nat.ne_of_gt (blk_lt (g := gb377) (o := .cells #[.bool t372, .bool t373, .bool t374, .bool t375] 59 (0, 0)) (bk BK377)) : gb383 ≠ gb377)); clear BK365 BK371 BK377 HB; have BK365 := n0_; have BK371 := n1_; have BK377 := n2_; have HB := n3_; have BK383 := n4_; have GW383 := n5_; have GE383 := n6_; have NB365_383 := n7_; have NB383_365 := n8_; have NB371_383 := n9_; have NB383_371 := n10_; have NB377_383 := n11_; have NB383_377 := n12_; clear n0_ n1_ n2_ n3_ n4_ n5_ n6_ n7_ n8_ n9_ n10_ n11_ n12_; clear hb hbox hg; have hnb71 := NB383_365.out; have hnc71 := NB365_383.out; have hnb72 := NB383_371.out; have hnc72 := NB371_383.out; have hnb73 := NB383_377.out; have hnc73 := NB377_383.out; have hcz74_0 : w70.cell? ⟨gb383, 0, none⟩ = some (.bool false) := (blk_cell BK383.out 0).trans rfl; have hcz74_1 : w70.cell? ⟨gb383, 1, none⟩ = some (.bool false) := (blk_cell BK383.out 1).trans rfl; have hcz74_2 : w70.cell? ⟨gb383, 2, none⟩ = some (.bool false) := (blk_cell BK383.out 2).trans rfl; have hcz74_3 : w70.cell? ⟨gb383, 3, none⟩ = some (.bool false) := (blk_cell BK383.out 3).trans rfl; have hfz74_0 := blk_frozen BK383.out 0; have hfz74_1 := blk_frozen BK383.out 1; have hfz74_2 := blk_frozen BK383.out 2; have hfz74_3 := blk_frozen BK383.out 3; have hcz75_0 : w70.cell? ⟨gb371, 0, none⟩ = some (.bool t366) := (blk_cell BK371.out 0).trans rfl; have hcz75_1 : w70.cell? ⟨gb371, 1, none⟩ = some (.bool t367) := (blk_cell BK371.out 1).trans rfl; have hcz75_2 : w70.cell? ⟨gb371, 2, none⟩ = some (.bool t368) := (blk_cell BK371.out 2).trans rfl; have hcz75_3 : w70.cell? ⟨gb371, 3, none⟩ = some (.bool t369) := (blk_cell BK371.out 3).trans rfl; have hfz75_0 := blk_frozen BK371.out 0; have hfz75_1 := blk_frozen BK371.out 1; have hfz75_2 := blk_frozen BK371.out 2; have hfz75_3 := blk_frozen BK371.out 3; have hnb76 := NB365_377.out; have hnc76 := NB377_365.out; have hcz77_0 : w70.cell? ⟨gb365, 0, none⟩ = some (.bool t360) := (blk_cell BK365.out 0).trans rfl; have hcz77_1 : w70.cell? ⟨gb365, 1, none⟩ = some (.bool t361) := (blk_cell BK365.out 1).trans rfl; have hcz77_2 : w70.cell? ⟨gb365, 2, none⟩ = some (.bool t362) := (blk_cell BK365.out 2).trans rfl; have hcz77_3 : w70.cell? ⟨gb365, 3, none⟩ = some (.bool t363) := (blk_cell BK365.out 3).trans rfl; have hfz77_0 := blk_frozen BK365.out 0; have hfz77_1 := blk_frozen BK365.out 1; have hfz77_2 := blk_frozen BK365.out 2; have hfz77_3 := blk_frozen BK365.out 3; have TK2_ := Aside0.mk trivial) | (clear TK2_; go_at_call 43; (with_reducible refine (impl_BaySafe.calls t360 t361 t362 t363 false _ A35.out).mono ?_); rintro e w78 ⟨rfl, hb⟩; have n0_ := Aside0.mk (blk_below (g := gb365) (o := .cells #[.bool t360, .bool t361, .bool t362, .bool t363] 59 (0, 0)) (by (with_reducible repeat (first | refine blk_drewN ?_ _ | refine blk_drew ?_ | refine blk_alloc ?_ _)); refine blk_far ?_ NB365_383.out _; (with_reducible repeat (first | refine blk_drewN ?_ _ | refine blk_drew ?_ | refine blk_alloc ?_ _)); refine blk_far ?_ NB365_383.out _; (with_reducible repeat (first | refine blk_drewN ?_ _ | refine blk_drew ?_ | refine blk_alloc ?_ _)); refine blk_far ?_ NB365_383.out _; (with_reducible repeat (first | refine blk_drewN ?_ _ | refine blk_drew ?_ | refine blk_alloc ?_ _)); refine blk_far ?_ NB365_383.out _; (with_reducible repeat (first | refine blk_drewN ?_ _ | refine blk_drew ?_ | refine blk_alloc ?_ _)); exact BK365.out) hb); have n1_ := Aside0.mk (blk_below (g := gb371) (o := .cells #[.bool t366, .bool t367, .bool t368, .bool t369] 59 (0, 0)) (by (with_reducible repeat (first | refine blk_drewN ?_ _ | refine blk_drew ?_ | refine blk_alloc ?_ _)); refine blk_far ?_ NB371_383.out _; (with_reducible repeat (first | refine blk_drewN ?_ _ | refine blk_drew ?_ | refine blk_alloc ?_ _)); refine blk_far ?_ NB371_383.out _; (with_reducible repeat (first | refine blk_drewN ?_ _ | refine blk_drew ?_ | refine blk_alloc ?_ _)); refine blk_far ?_ NB371_383.out _; (with_reducible repeat (first | refine blk_drewN ?_ _ | refine blk_drew ?_ | refine blk_alloc ?_ _)); refine blk_far ?_ NB371_383.out _; (with_reducible repeat (first | refine blk_drewN ?_ _ | refine blk_drew ?_ | refine blk_alloc ?_ _)); exact BK371.out) hb); have n2_ := Aside0.mk (blk_below (g := gb377) (o := .cells #[.bool t372, .bool t373, .bool t374, .bool t375] 59 (0, 0)) (by (with_reducible repeat (first | refine blk_drewN ?_ _ | refine blk_drew ?_ | refine blk_alloc ?_ _)); refine blk_far ?_ NB377_383.out _; (with_reducible repeat (first | refine blk_drewN ?_ _ | refine blk_drew ?_ | refine blk_alloc ?_ _)); refine blk_far ?_ NB377_383.out _; (with_reducible repeat (first | refine blk_drewN ?_ _ | refine blk_drew ?_ | refine blk_alloc ?_ _)); refine blk_far ?_ NB377_383.out _; (with_reducible repeat (first | refine blk_drewN ?_ _ | refine blk_drew ?_ | refine blk_alloc ?_ _)); refine blk_far ?_ NB377_383.out _; (with_reducible repeat (first | refine blk_drewN ?_ _ | refine blk_drew ?_ | refine blk_alloc ?_ _)); exact BK377.out) hb); have n3_ := Aside0.mk (blk_below (g := gb383) (o := .cells #[.bool t378, .bool t379, .bool t380, .bool t381] 59 (0, 0)) (by (with_reducible repeat (first | refine blk_drewN ?_ _ | refine blk_drew ?_ | refine blk_alloc ?_ _)); refine blk_put (cs := #[.bool t378, .bool t379, .bool t380, .bool false]) ?_ 3 _ rfl; (with_reducible repeat (first | refine blk_drewN ?_ _ | refine blk_drew ?_ | refine blk_alloc ?_ _)); refine blk_put (cs := #[.bool t378, .bool t379, .bool false, .bool false]) ?_ 2 _ rfl; (with_reducible repeat (first | refine blk_drewN ?_ _ | refine blk_drew ?_ | refine blk_alloc ?_ _)); refine blk_put (cs := #[.bool t378, .bool false, .bool false, .bool false]) ?_ 1 _ rfl; (with_reducible repeat (first | refine blk_drewN ?_ _ | refine blk_drew ?_ | refine blk_alloc ?_ _)); refine blk_put (cs := #[.bool false, .bool false, .bool false, .bool false]) ?_ 0 _ rfl; (with_reducible repeat (first | refine blk_drewN ?_ _ | refine blk_drew ?_ | refine blk_alloc ?_ _)); exact BK383.out) hb); have n4_ := Aside0.mk (below_step bw hb); clear BK365 BK371 BK377 BK383 HB; have BK365 := n0_; have BK371 := n1_; have BK377 := n2_; have BK383 := n3_; have HB := n4_; clear n0_ n1_ n2_ n3_ n4_; (try clear hb); (try clear hb2); (try clear hk); (try clear hi); have TK3_ := Aside0.mk trivial))
        go_ret
        exact ⟨by first | rfl | (simp [errW_none, errW_some] <;> rfl) | (simp [*, errW_none, errW_some] <;> rfl), bw⟩
      ·rw [if_neg c34] at H
       have c34b0 : (!(t366 == t360) || (!(t367 == t361) || (!(t368 == t362) || (!(t369 == t363))))) = false := by simpa using c34
       clear c34
       obtain rfl := Option.some.inj H
       have hnb79 := NB371_365.out
       have hnc79 := NB365_371.out
       have hnb80 := NB371_377.out
       have hnc80 := NB377_371.out
       have hcz81_0 : wc.cell? ⟨gb371, 0, none⟩ = some (.bool t366) := (blk_cell BK371.out 0).trans rfl
       have hcz81_1 : wc.cell? ⟨gb371, 1, none⟩ = some (.bool t367) := (blk_cell BK371.out 1).trans rfl
       have hcz81_2 : wc.cell? ⟨gb371, 2, none⟩ = some (.bool t368) := (blk_cell BK371.out 2).trans rfl
       have hcz81_3 : wc.cell? ⟨gb371, 3, none⟩ = some (.bool t369) := (blk_cell BK371.out 3).trans rfl
       have hfz81_0 := blk_frozen BK371.out 0
       have hfz81_1 := blk_frozen BK371.out 1
       have hfz81_2 := blk_frozen BK371.out 2
       have hfz81_3 := blk_frozen BK371.out 3
       go_wp2_with (first | ((with_reducible refine gate_callee (f := 57) rfl ?_); refine goesL_ (some 61) rfl rfl Tryd.func57 (by kernel_rfl) rfl #[.agg #[.bool t366, .bool t367, .bool t368, .bool t369], .int .i64 (wrap64 ((wrap64 (t364 + 1)) - (wrap64 (2 * (Int.tmod t364 2)))))] rfl (by (try simp only [List.map_toArray, List.map_cons, List.map_nil]); first | done | rfl | (simp only [List.length_drop, List.length_take]; rfl)) ?_; (with_reducible refine (impl_BayDo.calls t366 t367 t368 t369 (wrap64 ((wrap64 (t364 + 1)) - (wrap64 (2 * (Int.tmod t364 2))))) t378 t379 t380 t381 t382 _ A33.out).mono ?_); rintro e w82 ⟨rfl, hb⟩; refine ⟨_, rfl, ?_⟩; have n0_ := bkB BK365 hb; have n1_ := bkB BK371 hb; have n2_ := bkB BK377 hb; have n3_ := Aside0.mk (below_step bw hb); clear BK365 BK371 BK377 HB; have BK365 := n0_; have BK371 := n1_; have BK377 := n2_; have HB := n3_; clear n0_ n1_ n2_ n3_; (try clear hb); (try clear hb2); (try clear hk); (try clear hi)) | ((with_reducible refine gate_dst (N := 9) rfl ?_); refine box_event ?hg (N := 9) ?hd (cs := #[.bool false, .bool false, .bool false, .bool false]) (t := 59) ?hr ?_; (case hd => rfl); (case hg => rfl); (case hr => first | (go_simp; done) | (go_simp; rfl)); intro gb383 hg w83 hbox hb; have n0_ := bkB BK365 hb; have n1_ := bkB BK371 hb; have n2_ := bkB BK377 hb; have n3_ := Aside0.mk (below_step bw hb); have n4_ := Aside0.mk (hbox); have n5_ := Aside0.mk ((by rw [hg]; exact (below_size bw) : w.heap.size ≤ gb383)); have n6_ := Aside0.mk ((by rw [hg]; exact (below_size bw) : w.heap.size ≤ gb383)); have n7_ := Aside0.mk ((by rw [hg]; exact Nat.ne_of_lt (blk_lt (g := gb365) (o := .cells #[.bool t360, .bool t361, .bool t362, .bool t363] 59 (0, 0)) (bk BK365)) : gb365 ≠ gb383)); have n8_ := Aside0.mk ((by rw [hg]; exact Nat.ne_of_gt (blk_lt (g := gb365) (o := .cells #[.bool t360, .bool t361, .bool t362, .bool t363] 59 (0, 0)) (bk BK365)) : gb383 ≠ gb365)); have n9_ := Aside0.mk ((by rw [hg]; exact Nat.ne_of_lt (blk_lt (g := gb371) (o := .cells #[.bool t366, .bool t367, .bool t368, .bool t369] 59 (0, 0)) (bk BK371)) : gb371 ≠ gb383)); have n10_ := Aside0.mk ((by rw [hg]; exact Nat.ne_of_gt (blk_lt (g := gb371) (o := .cells #[.bool t366, .bool t367, .bool t368, .bool t369] 59 (0, 0)) (bk BK371)) : gb383 ≠ gb371)); have n11_ := Aside0.mk ((by rw [hg]; exact Nat.ne_of_lt (blk_lt (g := gb377) (o := .cells #[.bool t372, .bool t373, .bool t374, .bool t375] 59 (0, 0)) (bk BK377)) : gb377 ≠ gb383)); have n12_ := Aside0.mk ((by rw [hg]; exact Nat.ne_of_gt (blk_lt (g := gb377) (o := .cells #[.bool t372, .bool t373, .bool t374, .bool t375] 59 (0, 0)) (bk BK377)) : gb383 ≠ gb377)); clear BK365 BK371 BK377 HB; have BK365 := n0_; have BK371 := n1_; have BK377 := n2_; have HB := n3_; have BK383 := n4_; have GW383 := n5_; have GE383 := n6_; have NB365_383 := n7_; have NB383_365 := n8_; have NB371_383 := n9_; have NB383_371 := n10_; have NB377_383 := n11_; have NB383_377 := n12_; clear n0_ n1_ n2_ n3_ n4_ n5_ n6_ n7_ n8_ n9_ n10_ n11_ n12_; clear hb hbox hg; have hnb84 := NB383_365.out; have hnc84 := NB365_383.out; have hnb85 := NB383_371.out; have hnc85 := NB371_383.out; have hnb86 := NB383_377.out; have hnc86 := NB377_383.out; have hcz87_0 : w83.cell? ⟨gb383, 0, none⟩ = some (.bool false) := (blk_cell BK383.out 0).trans rfl; have hcz87_1 : w83.cell? ⟨gb383, 1, none⟩ = some (.bool false) := (blk_cell BK383.out 1).trans rfl; have hcz87_2 : w83.cell? ⟨gb383, 2, none⟩ = some (.bool false) := (blk_cell BK383.out 2).trans rfl; have hcz87_3 : w83.cell? ⟨gb383, 3, none⟩ = some (.bool false) := (blk_cell BK383.out 3).trans rfl; have hfz87_0 := blk_frozen BK383.out 0; have hfz87_1 := blk_frozen BK383.out 1; have hfz87_2 := blk_frozen BK383.out 2; have hfz87_3 := blk_frozen BK383.out 3; have hcz88_0 : w83.cell? ⟨gb371, 0, none⟩ = some (.bool t366) := (blk_cell BK371.out 0).trans rfl; have hcz88_1 : w83.cell? ⟨gb371, 1, none⟩ = some (.bool t367) := (blk_cell BK371.out 1).trans rfl; have hcz88_2 : w83.cell? ⟨gb371, 2, none⟩ = some (.bool t368) := (blk_cell BK371.out 2).trans rfl; have hcz88_3 : w83.cell? ⟨gb371, 3, none⟩ = some (.bool t369) := (blk_cell BK371.out 3).trans rfl; have hfz88_0 := blk_frozen BK371.out 0; have hfz88_1 := blk_frozen BK371.out 1; have hfz88_2 := blk_frozen BK371.out 2; have hfz88_3 := blk_frozen BK371.out 3; have hnb89 := NB365_377.out; have hnc89 := NB377_365.out; have hcz90_0 : w83.cell? ⟨gb365, 0, none⟩ = some (.bool t360) := (blk_cell BK365.out 0).trans rfl; have hcz90_1 : w83.cell? ⟨gb365, 1, none⟩ = some (.bool t361) := (blk_cell BK365.out 1).trans rfl; have hcz90_2 : w83.cell? ⟨gb365, 2, none⟩ = some (.bool t362) := (blk_cell BK365.out 2).trans rfl; have hcz90_3 : w83.cell? ⟨gb365, 3, none⟩ = some (.bool t363) := (blk_cell BK365.out 3).trans rfl; have hfz90_0 := blk_frozen BK365.out 0; have hfz90_1 := blk_frozen BK365.out 1; have hfz90_2 := blk_frozen BK365.out 2; have hfz90_3 := blk_frozen BK365.out 3))
       go_ret
       exact ⟨by first | rfl | (simp [errW_none, errW_some] <;> rfl) | (simp [*, errW_none, errW_some] <;> rfl), bw⟩
     ·replace c32 := Bool.eq_false_iff.mpr c32
      subst c32
      have H1 : (if (t366 == t360 && (t367 == t361 && (t368 == t362 && (t369 == t363)))) = true then ((impl_BayMay.f t360 t361 t362 t363 t364).bind fun t385 => (if t385 = true then (some false) else ((laws_alive.f kj5).bind fun t386 => (some t386)))) else (some false)) = some r := by rw [if_neg (show ¬ (false = true) by decide)] at H; exact H
      clear H
      have H := H1
      clear H1
      by_cases c91 : (t366 == t360 && (t367 == t361 && (t368 == t362 && (t369 == t363)))) = true
      ·rw [if_pos c91] at H
       have c91b0 : (t366 == t360 && (t367 == t361 && (t368 == t362 && (t369 == t363)))) = true := c91
       (try (have c91b1 : decide (t366 = t360 && (t367 == t361 && (t368 == t362 && (t369 == t363)))) = true := by simpa using c91))
       (try (have c91b2 : (t366 == t360 && (t367 == t361 && (t368 == t362 && (t369 == t363)))) = true := by simpa using c91))
       clear c91
       replace H := Option.bind_eq_some_iff.mp H
       obtain ⟨t385, A920, H⟩ := H
       replace H : (if t385 = true then (some false) else ((laws_alive.f kj5).bind fun t386 => (some t386))) = some r := H
       have A92 := Aside0.mk A920
       clear A920
       by_cases c93 : t385 = true
       ·subst c93
        have H1 : (some false) = some r := by rw [if_pos rfl] at H; exact H
        clear H
        have H := H1
        clear H1
        obtain rfl := Option.some.inj H
        have hnb94 := NB371_365.out
        have hnc94 := NB365_371.out
        have hnb95 := NB371_377.out
        have hnc95 := NB377_371.out
        have hcz96_0 : wc.cell? ⟨gb371, 0, none⟩ = some (.bool t366) := (blk_cell BK371.out 0).trans rfl
        have hcz96_1 : wc.cell? ⟨gb371, 1, none⟩ = some (.bool t367) := (blk_cell BK371.out 1).trans rfl
        have hcz96_2 : wc.cell? ⟨gb371, 2, none⟩ = some (.bool t368) := (blk_cell BK371.out 2).trans rfl
        have hcz96_3 : wc.cell? ⟨gb371, 3, none⟩ = some (.bool t369) := (blk_cell BK371.out 3).trans rfl
        have hfz96_0 := blk_frozen BK371.out 0
        have hfz96_1 := blk_frozen BK371.out 1
        have hfz96_2 := blk_frozen BK371.out 2
        have hfz96_3 := blk_frozen BK371.out 3
        have hnb97 := NB365_377.out
        have hnc97 := NB377_365.out
        have hcz98_0 : wc.cell? ⟨gb365, 0, none⟩ = some (.bool t360) := (blk_cell BK365.out 0).trans rfl
        have hcz98_1 : wc.cell? ⟨gb365, 1, none⟩ = some (.bool t361) := (blk_cell BK365.out 1).trans rfl
        have hcz98_2 : wc.cell? ⟨gb365, 2, none⟩ = some (.bool t362) := (blk_cell BK365.out 2).trans rfl
        have hcz98_3 : wc.cell? ⟨gb365, 3, none⟩ = some (.bool t363) := (blk_cell BK365.out 3).trans rfl
        have hfz98_0 := blk_frozen BK365.out 0
        have hfz98_1 := blk_frozen BK365.out 1
        have hfz98_2 := blk_frozen BK365.out 2
        have hfz98_3 := blk_frozen BK365.out 3
        go_wp2_with (first | (go_at_call 55; (with_reducible refine (impl_BayMay.calls t360 t361 t362 t363 t364 true _ A92.out).mono ?_); rintro e w99 ⟨rfl, hb⟩; have n0_ := bkB BK365 hb; have n1_ := bkB BK371 hb; have n2_ := bkB BK377 hb; have n3_ := Aside0.mk (below_step bw hb); clear BK365 BK371 BK377 HB; have BK365 := n0_; have BK371 := n1_; have BK377 := n2_; have HB := n3_; clear n0_ n1_ n2_ n3_; (try clear hb); (try clear hb2); (try clear hk); (try clear hi)))
        go_ret
        exact ⟨by first | rfl | (simp [errW_none, errW_some] <;> rfl) | (simp [*, errW_none, errW_some] <;> rfl), bw⟩
       ·replace c93 := Bool.eq_false_iff.mpr c93
        subst c93
        have H1 : ((laws_alive.f kj5).bind fun t386 => (some t386)) = some r := by rw [if_neg (show ¬ (false = true) by decide)] at H; exact H
        clear H
        have H := H1
        clear H1
        replace H := Option.bind_eq_some_iff.mp H
        obtain ⟨t386, A1000, H⟩ := H
        replace H : (some t386) = some r := H
        have A100 := Aside0.mk A1000
        clear A1000
        obtain rfl := Option.some.inj H
        have hnb101 := NB371_365.out
        have hnc101 := NB365_371.out
        have hnb102 := NB371_377.out
        have hnc102 := NB377_371.out
        have hcz103_0 : wc.cell? ⟨gb371, 0, none⟩ = some (.bool t366) := (blk_cell BK371.out 0).trans rfl
        have hcz103_1 : wc.cell? ⟨gb371, 1, none⟩ = some (.bool t367) := (blk_cell BK371.out 1).trans rfl
        have hcz103_2 : wc.cell? ⟨gb371, 2, none⟩ = some (.bool t368) := (blk_cell BK371.out 2).trans rfl
        have hcz103_3 : wc.cell? ⟨gb371, 3, none⟩ = some (.bool t369) := (blk_cell BK371.out 3).trans rfl
        have hfz103_0 := blk_frozen BK371.out 0
        have hfz103_1 := blk_frozen BK371.out 1
        have hfz103_2 := blk_frozen BK371.out 2
        have hfz103_3 := blk_frozen BK371.out 3
        have hnb104 := NB365_377.out
        have hnc104 := NB377_365.out
        have hcz105_0 : wc.cell? ⟨gb365, 0, none⟩ = some (.bool t360) := (blk_cell BK365.out 0).trans rfl
        have hcz105_1 : wc.cell? ⟨gb365, 1, none⟩ = some (.bool t361) := (blk_cell BK365.out 1).trans rfl
        have hcz105_2 : wc.cell? ⟨gb365, 2, none⟩ = some (.bool t362) := (blk_cell BK365.out 2).trans rfl
        have hcz105_3 : wc.cell? ⟨gb365, 3, none⟩ = some (.bool t363) := (blk_cell BK365.out 3).trans rfl
        have hfz105_0 := blk_frozen BK365.out 0
        have hfz105_1 := blk_frozen BK365.out 1
        have hfz105_2 := blk_frozen BK365.out 2
        have hfz105_3 := blk_frozen BK365.out 3
        go_wp2_with (first | (go_at_call 55; (with_reducible refine (impl_BayMay.calls t360 t361 t362 t363 t364 false _ A92.out).mono ?_); rintro e w106 ⟨rfl, hb⟩; have n0_ := bkB BK365 hb; have n1_ := bkB BK371 hb; have n2_ := bkB BK377 hb; have n3_ := Aside0.mk (below_step bw hb); clear BK365 BK371 BK377 HB; have BK365 := n0_; have BK371 := n1_; have BK377 := n2_; have HB := n3_; clear n0_ n1_ n2_ n3_; (try clear hb); (try clear hb2); (try clear hk); (try clear hi)) | (go_at_call 21; (with_reducible refine (laws_alive.calls kj5  t386 _ A100.out).mono ?_); rintro e w107 ⟨rfl, hb⟩; have n0_ := bkB BK365 hb; have n1_ := bkB BK371 hb; have n2_ := bkB BK377 hb; have n3_ := Aside0.mk (below_step bw hb); clear BK365 BK371 BK377 HB; have BK365 := n0_; have BK371 := n1_; have BK377 := n2_; have HB := n3_; clear n0_ n1_ n2_ n3_; (try clear hb); (try clear hb2); (try clear hk); (try clear hi)))
        go_ret
        exact ⟨by first | rfl | (simp [errW_none, errW_some] <;> rfl) | (simp [*, errW_none, errW_some] <;> rfl), bw⟩
      ·rw [if_neg c91] at H
       have c91b0 : (t366 == t360 && (t367 == t361 && (t368 == t362 && (t369 == t363)))) = false := by simpa using c91
       (try (have c91b1 : decide (t366 = t360 && (t367 == t361 && (t368 == t362 && (t369 == t363)))) = false := by simpa using c91))
       (try (have c91b2 : (t366 == t360 && (t367 == t361 && (t368 == t362 && (t369 == t363)))) = false := by simpa using c91))
       (try (have c91b3 : ¬ (t366 = t360 && (t367 == t361 && (t368 == t362 && (t369 == t363)))) := by simpa using c91))
       clear c91
       obtain rfl := Option.some.inj H
       have hnb108 := NB371_365.out
       have hnc108 := NB365_371.out
       have hnb109 := NB371_377.out
       have hnc109 := NB377_371.out
       have hcz110_0 : wc.cell? ⟨gb371, 0, none⟩ = some (.bool t366) := (blk_cell BK371.out 0).trans rfl
       have hcz110_1 : wc.cell? ⟨gb371, 1, none⟩ = some (.bool t367) := (blk_cell BK371.out 1).trans rfl
       have hcz110_2 : wc.cell? ⟨gb371, 2, none⟩ = some (.bool t368) := (blk_cell BK371.out 2).trans rfl
       have hcz110_3 : wc.cell? ⟨gb371, 3, none⟩ = some (.bool t369) := (blk_cell BK371.out 3).trans rfl
       have hfz110_0 := blk_frozen BK371.out 0
       have hfz110_1 := blk_frozen BK371.out 1
       have hfz110_2 := blk_frozen BK371.out 2
       have hfz110_3 := blk_frozen BK371.out 3
       have hnb111 := NB365_377.out
       have hnc111 := NB377_365.out
       have hcz112_0 : wc.cell? ⟨gb365, 0, none⟩ = some (.bool t360) := (blk_cell BK365.out 0).trans rfl
       have hcz112_1 : wc.cell? ⟨gb365, 1, none⟩ = some (.bool t361) := (blk_cell BK365.out 1).trans rfl
       have hcz112_2 : wc.cell? ⟨gb365, 2, none⟩ = some (.bool t362) := (blk_cell BK365.out 2).trans rfl
       have hcz112_3 : wc.cell? ⟨gb365, 3, none⟩ = some (.bool t363) := (blk_cell BK365.out 3).trans rfl
       have hfz112_0 := blk_frozen BK365.out 0
       have hfz112_1 := blk_frozen BK365.out 1
       have hfz112_2 := blk_frozen BK365.out 2
       have hfz112_3 := blk_frozen BK365.out 3
       go_wp2
       go_ret
       exact ⟨by first | rfl | (simp [errW_none, errW_some] <;> rfl) | (simp [*, errW_none, errW_some] <;> rfl), bw⟩


end Go.Proofs.YtoajkfhjgnonjaaDoor.G
