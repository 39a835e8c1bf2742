-- Printed by wip/gen.py of this session's repo, over the kit's print.py. Not trusted: Lean checks it.
import Derived.Test.YtoajkfhjgnonjaaDoorSq
import Derived.Test.YtoajkfhjgnonjaaDoorGx0
import Derived.Test.YtoajkfhjgnonjaaDoorGx1
import Derived.Test.YtoajkfhjgnonjaaDoorGx10
import Derived.Test.YtoajkfhjgnonjaaDoorGx2
import Derived.Test.YtoajkfhjgnonjaaDoorGx8
import Derived.Test.YtoajkfhjgnonjaaDoorGx9
namespace Go.Proofs.YtoajkfhjgnonjaaDoor.G
open Go.RowKit Go.Proofs.YtoajkfhjgnonjaaDoorW.PrintWords Go.Proofs.YtoajkfhjgnonjaaDoorW.PrintLast Go.Proofs.YtoajkfhjgnonjaaDoorW.PrintMore Go.Proofs.YtoajkfhjgnonjaaDoor.Sq
attribute [local go_sem] max2_int min2_int max_two min_two max_three min_three max_four min_four   -- for this text's walks alone
set_option linter.unusedVariables false
set_option linter.unusedSimpArgs false

theorem eqA59Q23 (d : Nat) (w : World) (x0 y0 : Bool) (x1 y1 : Bool) (x2 y2 : Bool) (x3 y3 : Bool) :
  (Op.equalIn (d + 2) 59 (.agg #[.bool x0, .bool x1, .bool x2, .bool x3]) (.agg #[.bool y0, .bool y1, .bool y2, .bool y3])).run Tryd.prog w = .ok (x0 == y0 && (x1 == y1 && (x2 == y2 && (x3 == y3)))) w := by
 refine eqA_of Tryd.underlying59 (by kernel_rfl) ?_
 refine eqf_cons (by rfl) (by go_simp; rfl) (by go_simp; rfl) (by go_simp) ?_
 refine eqf_cons (by rfl) (by go_simp; rfl) (by go_simp; rfl) (by go_simp) ?_
 refine eqf_cons (by rfl) (by go_simp; rfl) (by go_simp; rfl) (by go_simp) ?_
 exact eqf_last (by rfl) (by go_simp; rfl) (by go_simp; rfl) (by go_simp)

attribute [local go_sem high] eqA59Q23
/-! ### laws_FnBayRun: function 14 -/
mutual
def laws_FnBayRun.j0 : Nat → List Int → Int → Bool → Bool → Bool → Bool → Bool → Bool → Bool → Bool → Bool → Option (Bool)
 | 0, _, _, _, _, _, _, _, _, _, _, _ => none
 | k + 1, x4, x6, x42, x453000, x453001, x453002, x453003, x459000, x459001, x459002, x459003 => if x42 = true then (some false) else (if x6 < 0 then (laws_FnBayRun.j1 k x4 x6 true x453000 x453001 x453002 x453003 x459000 x459001 x459002 x459003) else (if x6 > (x4.length : Int) then (laws_FnBayRun.j1 k x4 x6 true x453000 x453001 x453002 x453003 x459000 x459001 x459002 x459003) else ((impl_BaySafe.f x453000 x453001 x453002 x453003).bind fun t465 => (if t465 = true then ((impl_BaySafe.f x459000 x459001 x459002 x459003).bind fun t466 => (laws_FnBayRun.j1 k x4 x6 (!t466) x453000 x453001 x453002 x453003 x459000 x459001 x459002 x459003)) else (laws_FnBayRun.j1 k x4 x6 false x453000 x453001 x453002 x453003 x459000 x459001 x459002 x459003)))))
def laws_FnBayRun.j1 : Nat → List Int → Int → Bool → Bool → Bool → Bool → Bool → Bool → Bool → Bool → Bool → Option (Bool)
 | 0, _, _, _, _, _, _, _, _, _, _, _ => none
 | k + 1, x4, x6, x59, x453000, x453001, x453002, x453003, x459000, x459001, x459002, x459003 => if x59 = true then (some false) else (if 0 ≤ x6 then (if x6 ≤ (x4.length : Int) then ((impl_BayRun.f k x453000 x453001 x453002 x453003 (x4.take (x6 : Int).toNat)).bind fun bt471 => (laws_FnBayRun.l0 k x4 x6 bt471.2.2.2.2 (([] : List Int)) (wrap64 (x6 - 1)) x453000 x453001 x453002 x453003 x459000 x459001 x459002 x459003 bt471.1 bt471.2.1 bt471.2.2.1 bt471.2.2.2.1)) else (none)) else (none))
def laws_FnBayRun.l0 : Nat → List Int → Int → Int → List Int → Int → Bool → Bool → Bool → Bool → Bool → Bool → Bool → Bool → Bool → Bool → Bool → Bool → Option (Bool)
 | 0, _, _, _, _, _, _, _, _, _, _, _, _, _, _, _, _, _ => none
 | k + 1, x4, x6, x10, x11, x12, x453000, x453001, x453002, x453003, x459000, x459001, x459002, x459003, x477000, x477001, x477002, x477003 => if x12 ≥ 0 then (if 0 ≤ x12 then (if x12 < (x4.length : Int) then (if x11.length < 17592186044416 then (laws_FnBayRun.l0 k x4 x6 x10 (x11 ++ [wrap64 ((wrap64 ((rd x4 x12) + 1)) - (wrap64 (2 * (Int.tmod (rd x4 x12) 2))))]) (wrap64 (x12 - 1)) x453000 x453001 x453002 x453003 x459000 x459001 x459002 x459003 x477000 x477001 x477002 x477003) else (none)) else (none)) else (none)) else ((impl_BayRun.f k x459000 x459001 x459002 x459003 x11).bind fun bt485 => (if (x477000 == x459000 && (x477001 == x459001 && (x477002 == x459002 && (x477003 == x459003)))) = true then (if x10 = x6 then ((impl_BaySafe.f x453000 x453001 x453002 x453003).bind fun t491 => (if t491 = true then (if (bt485.1 == x453000 && (bt485.2.1 == x453001 && (bt485.2.2.1 == x453002 && (bt485.2.2.2.1 == x453003)))) = true then (if bt485.2.2.2.2 = x6 then ((laws_alive.f k).bind fun t492 => (some t492)) else (some false)) else (some false)) else ((laws_alive.f k).bind fun t493 => (some t493)))) else (some false)) else (some false)))
end
def laws_FnBayRun.f (k : Nat) (l0 : List Int) : Option (Bool) := if (l0.length : Int) > 1048576 then (some true) else ((spec_DrawBayRun.f k l0).bind fun bt445 => ((impl_BayRun.f k bt445.1 bt445.2.1 bt445.2.2.1 bt445.2.2.2.1 bt445.2.2.2.2).bind fun bt453 => ((spec_BayRun.f k bt445.1 bt445.2.1 bt445.2.2.1 bt445.2.2.2.1 bt445.2.2.2.2).bind fun bt459 => (if (!(bt453.1 == bt459.1) || (!(bt453.2.1 == bt459.2.1) || (!(bt453.2.2.1 == bt459.2.2.1) || (!(bt453.2.2.2.1 == bt459.2.2.2.1))))) = true then (laws_FnBayRun.j0 k bt445.2.2.2.2 bt453.2.2.2.2 true bt445.1 bt445.2.1 bt445.2.2.1 bt445.2.2.2.1 bt453.1 bt453.2.1 bt453.2.2.1 bt453.2.2.2.1) else (laws_FnBayRun.j0 k bt445.2.2.2.2 bt453.2.2.2.2 (bt453.2.2.2.2 != bt459.2.2.2.2) bt445.1 bt445.2.1 bt445.2.2.1 bt445.2.2.2.1 bt453.1 bt453.2.1 bt453.2.2.1 bt453.2.2.2.1)))))
theorem laws_FnBayRun.mono_l : ∀ k, (∀ y0 y1 y2 y3 y4 y5 y6 y7 y8 y9 y10, LeO (laws_FnBayRun.j0 k y0 y1 y2 y3 y4 y5 y6 y7 y8 y9 y10) (laws_FnBayRun.j0 (k + 1) y0 y1 y2 y3 y4 y5 y6 y7 y8 y9 y10)) ∧ (∀ y0 y1 y2 y3 y4 y5 y6 y7 y8 y9 y10, LeO (laws_FnBayRun.j1 k y0 y1 y2 y3 y4 y5 y6 y7 y8 y9 y10) (laws_FnBayRun.j1 (k + 1) y0 y1 y2 y3 y4 y5 y6 y7 y8 y9 y10)) ∧ (∀ y0 y1 y2 y3 y4 y5 y6 y7 y8 y9 y10 y11 y12 y13 y14 y15 y16, LeO (laws_FnBayRun.l0 k y0 y1 y2 y3 y4 y5 y6 y7 y8 y9 y10 y11 y12 y13 y14 y15 y16) (laws_FnBayRun.l0 (k + 1) y0 y1 y2 y3 y4 y5 y6 y7 y8 y9 y10 y11 y12 y13 y14 y15 y16))
 | 0 => ⟨fun _ _ _ _ _ _ _ _ _ _ _ r h => by simp [laws_FnBayRun.j0] at h, fun _ _ _ _ _ _ _ _ _ _ _ r h => by simp [laws_FnBayRun.j1] at h, fun _ _ _ _ _ _ _ _ _ _ _ _ _ _ _ _ _ r h => by simp [laws_FnBayRun.l0] at h⟩
 | k + 1 => by
  obtain ⟨ih0, ih1, ih2⟩ := laws_FnBayRun.mono_l k
  refine ⟨?_, ?_, ?_⟩
  ·intro y0 y1 y2 y3 y4 y5 y6 y7 y8 y9 y10
   unfold laws_FnBayRun.j0
   repeat' first
   | (with_reducible exact ih0 _ _ _ _ _ _ _ _ _ _ _)
   | (with_reducible exact ih1 _ _ _ _ _ _ _ _ _ _ _)
   | (with_reducible exact ih2 _ _ _ _ _ _ _ _ _ _ _ _ _ _ _ _ _)
   | (with_reducible exact impl_BayRun.mono _ _ _ _ _ _)
   | (with_reducible exact laws_alive.mono _)
   | (with_reducible exact spec_BayRun.mono _ _ _ _ _ _)
   | (with_reducible exact spec_DrawBayRun.mono _ _)
   | (with_reducible exact LeO.refl _)
   | (with_reducible exact LeO.none _)
   | (with_reducible refine LeO.ite ?_ ?_)
   | (with_reducible refine LeO.bind ?_ (fun _ => ?_))
   | exact ih0 _ _ _ _ _ _ _ _ _ _ _
   | exact ih1 _ _ _ _ _ _ _ _ _ _ _
   | exact ih2 _ _ _ _ _ _ _ _ _ _ _ _ _ _ _ _ _
   | exact impl_BayRun.mono _ _ _ _ _ _
   | exact laws_alive.mono _
   | exact spec_BayRun.mono _ _ _ _ _ _
   | exact spec_DrawBayRun.mono _ _
   | exact LeO.none _
   | refine LeO.ite ?_ ?_
   | refine LeO.bind ?_ (fun _ => ?_)
  ·intro y0 y1 y2 y3 y4 y5 y6 y7 y8 y9 y10
   unfold laws_FnBayRun.j1
   repeat' first
   | (with_reducible exact ih0 _ _ _ _ _ _ _ _ _ _ _)
   | (with_reducible exact ih1 _ _ _ _ _ _ _ _ _ _ _)
   | (with_reducible exact ih2 _ _ _ _ _ _ _ _ _ _ _ _ _ _ _ _ _)
   | (with_reducible exact impl_BayRun.mono _ _ _ _ _ _)
   | (with_reducible exact laws_alive.mono _)
   | (with_reducible exact spec_BayRun.mono _ _ _ _ _ _)
   | (with_reducible exact spec_DrawBayRun.mono _ _)
   | (with_reducible exact LeO.refl _)
   | (with_reducible exact LeO.none _)
   | (with_reducible refine LeO.ite ?_ ?_)
   | (with_reducible refine LeO.bind ?_ (fun _ => ?_))
   | exact ih0 _ _ _ _ _ _ _ _ _ _ _
   | exact ih1 _ _ _ _ _ _ _ _ _ _ _
   | exact ih2 _ _ _ _ _ _ _ _ _ _ _ _ _ _ _ _ _
   | exact impl_BayRun.mono _ _ _ _ _ _
   | exact laws_alive.mono _
   | exact spec_BayRun.mono _ _ _ _ _ _
   | exact spec_DrawBayRun.mono _ _
   | exact LeO.none _
   | refine LeO.ite ?_ ?_
   | refine LeO.bind ?_ (fun _ => ?_)
  ·intro y0 y1 y2 y3 y4 y5 y6 y7 y8 y9 y10 y11 y12 y13 y14 y15 y16
   unfold laws_FnBayRun.l0
   repeat' first
   | (with_reducible exact ih0 _ _ _ _ _ _ _ _ _ _ _)
   | (with_reducible exact ih1 _ _ _ _ _ _ _ _ _ _ _)
   | (with_reducible exact ih2 _ _ _ _ _ _ _ _ _ _ _ _ _ _ _ _ _)
   | (with_reducible exact impl_BayRun.mono _ _ _ _ _ _)
   | (with_reducible exact laws_alive.mono _)
   | (with_reducible exact spec_BayRun.mono _ _ _ _ _ _)
   | (with_reducible exact spec_DrawBayRun.mono _ _)
   | (with_reducible exact LeO.refl _)
   | (with_reducible exact LeO.none _)
   | (with_reducible refine LeO.ite ?_ ?_)
   | (with_reducible refine LeO.bind ?_ (fun _ => ?_))
   | exact ih0 _ _ _ _ _ _ _ _ _ _ _
   | exact ih1 _ _ _ _ _ _ _ _ _ _ _
   | exact ih2 _ _ _ _ _ _ _ _ _ _ _ _ _ _ _ _ _
   | exact impl_BayRun.mono _ _ _ _ _ _
   | exact laws_alive.mono _
   | exact spec_BayRun.mono _ _ _ _ _ _
   | exact spec_DrawBayRun.mono _ _
   | exact LeO.none _
   | refine LeO.ite ?_ ?_
   | refine LeO.bind ?_ (fun _ => ?_)
theorem laws_FnBayRun.mono : ∀ a0 k, LeO (laws_FnBayRun.f k a0) (laws_FnBayRun.f (k + 1) a0) := by
 intro a0 k
 obtain ⟨ih0, ih1, ih2⟩ := laws_FnBayRun.mono_l k
 unfold laws_FnBayRun.f
 repeat' first
   | (with_reducible exact ih0 _ _ _ _ _ _ _ _ _ _ _)
   | (with_reducible exact ih1 _ _ _ _ _ _ _ _ _ _ _)
   | (with_reducible exact ih2 _ _ _ _ _ _ _ _ _ _ _ _ _ _ _ _ _)
   | (with_reducible exact impl_BayRun.mono _ _ _ _ _ _)
   | (with_reducible exact laws_alive.mono _)
   | (with_reducible exact spec_BayRun.mono _ _ _ _ _ _)
   | (with_reducible exact spec_DrawBayRun.mono _ _)
   | (with_reducible exact LeO.refl _)
   | (with_reducible exact LeO.none _)
   | (with_reducible refine LeO.ite ?_ ?_)
   | (with_reducible refine LeO.bind ?_ (fun _ => ?_))
   | exact ih0 _ _ _ _ _ _ _ _ _ _ _
   | exact ih1 _ _ _ _ _ _ _ _ _ _ _
   | exact ih2 _ _ _ _ _ _ _ _ _ _ _ _ _ _ _ _ _
   | exact impl_BayRun.mono _ _ _ _ _ _
   | exact laws_alive.mono _
   | exact spec_BayRun.mono _ _ _ _ _ _
   | exact spec_DrawBayRun.mono _ _
   | exact LeO.none _
   | refine LeO.ite ?_ ?_
   | refine LeO.bind ?_ (fun _ => ?_)
def laws_FnBayRun.T10 : Bool × List (List Nat × List Nat) := (true, [([], []), ([], []), ([], []), ([1, 2], [1, 2]), ([0, 3], [0, 3]), ([4], [4]), ([5], [5]), ([5], [5]), ([], []), ([8, 6, 4, 0, 1, 2, 3, 4, 5, 6, 8], [6, 8]), ([7, 9, 0, 1, 2, 3, 4, 5, 6, 7, 8, 9], [7])])
def laws_FnBayRun.B10 : List Nat := [0, 0, 0, 6, 15, 31, 63, 63, 0, 383, 1023]
theorem laws_FnBayRun.tab10 : rtab .any (opsOf Tryd.f14 10) = laws_FnBayRun.T10 := by kernel_rfl
theorem laws_FnBayRun.bits10 : waitsOk laws_FnBayRun.T10.2 laws_FnBayRun.B10 = true := by kernel_rfl
def laws_FnBayRun.T15 : Bool × List (List Nat × List Nat) := (true, [([], []), ([], []), ([], []), ([1, 2], [1, 2]), ([3], [3]), ([4], [4]), ([], []), ([], []), ([6, 7], [6, 7]), ([8], [8]), ([9], [9]), ([10], [10]), ([5, 11], [5, 11]), ([12], [12]), ([0, 13], [0, 13]), ([14, 14, 0, 1, 2, 3, 4, 5, 6, 7, 8, 9, 10, 11, 12, 13, 14], [0, 14])])
def laws_FnBayRun.B15 : List Nat := [0, 0, 0, 6, 14, 30, 0, 0, 192, 448, 960, 1984, 4094, 8190, 16383, 32767]
theorem laws_FnBayRun.tab15 : rtab .any (opsOf Tryd.f14 15) = laws_FnBayRun.T15 := by kernel_rfl
theorem laws_FnBayRun.bits15 : waitsOk laws_FnBayRun.T15.2 laws_FnBayRun.B15 = true := by kernel_rfl
set_option maxHeartbeats 8000000 in
set_option maxRecDepth 100000 in
theorem laws_FnBayRun.calls (k : Nat) (A0 : Option Addr) (c0 : Nat) (l0 : List Int) (r : Bool) (w : World) (hr0 : Kd.C (Kd.int .u8) w A0 l0.length l0) (hc0 : l0.length ≤ c0) (h : laws_FnBayRun.f k l0 = some r) :
  Calls Tryd.prog 14 #[.slice A0 l0.length c0] w fun e w' => e = .returned (.bool r) ∧ Below w.heap.size w w' := by
 have hu59 := Tryd.underlying59
 have HR0 := Aside0.mk hr0
 have HC0 := Aside0.mk hc0
 clear hr0 hc0
 have HB := Aside0.mk (Below.refl w.heap.size w)
 have H : (if (l0.length : Int) > 1048576 then (some true) else ((spec_DrawBayRun.f k l0).bind fun bt445 => ((impl_BayRun.f k bt445.1 bt445.2.1 bt445.2.2.1 bt445.2.2.2.1 bt445.2.2.2.2).bind fun bt453 => ((spec_BayRun.f k bt445.1 bt445.2.1 bt445.2.2.1 bt445.2.2.2.1 bt445.2.2.2.2).bind fun bt459 => (if (!(bt453.1 == bt459.1) || (!(bt453.2.1 == bt459.2.1) || (!(bt453.2.2.1 == bt459.2.2.1) || (!(bt453.2.2.2.1 == bt459.2.2.2.1))))) = true then (laws_FnBayRun.j0 k bt445.2.2.2.2 bt453.2.2.2.2 true bt445.1 bt445.2.1 bt445.2.2.1 bt445.2.2.2.1 bt453.1 bt453.2.1 bt453.2.2.1 bt453.2.2.2.1) else (laws_FnBayRun.j0 k bt445.2.2.2.2 bt453.2.2.2.2 (bt453.2.2.2.2 != bt459.2.2.2.2) bt445.1 bt445.2.1 bt445.2.2.1 bt445.2.2.2.1 bt453.1 bt453.2.1 bt453.2.2.1 bt453.2.2.2.1)))))) = some r := h
 clear h
 by_cases c2 : (l0.length : Int) > 1048576
 ·rw [if_pos c2] at H
  have c2b0 : decide (1048576 < (l0.length : Int)) = true := decide_eq_true c2
  have c2b1 : decide (1048576 < l0.length) = true := decide_eq_true (by omega)
  clear c2
  obtain rfl := Option.some.inj H
  go_enter Tryd.func14, Tryd.ntmps14
  go_wp2
  go_ret
  exact ⟨by first | rfl | (simp [errW_none, errW_some] <;> rfl) | (simp [*, errW_none, errW_some] <;> rfl), bw⟩
 ·rw [if_neg c2] at H
  have c2b0 : decide (1048576 < (l0.length : Int)) = false := decide_eq_false c2
  have c2b1 : decide (1048576 < l0.length) = false := decide_eq_false (by omega)
  clear c2
  replace H := Option.bind_eq_some_iff.mp H
  obtain ⟨⟨t445, t446, t447, t448, t449⟩, A30, H⟩ := H
  replace H : ((impl_BayRun.f k t445 t446 t447 t448 t449).bind fun bt453 => ((spec_BayRun.f k t445 t446 t447 t448 t449).bind fun bt459 => (if (!(bt453.1 == bt459.1) || (!(bt453.2.1 == bt459.2.1) || (!(bt453.2.2.1 == bt459.2.2.1) || (!(bt453.2.2.2.1 == bt459.2.2.2.1))))) = true then (laws_FnBayRun.j0 k t449 bt453.2.2.2.2 true t445 t446 t447 t448 bt453.1 bt453.2.1 bt453.2.2.1 bt453.2.2.2.1) else (laws_FnBayRun.j0 k t449 bt453.2.2.2.2 (bt453.2.2.2.2 != bt459.2.2.2.2) t445 t446 t447 t448 bt453.1 bt453.2.1 bt453.2.2.1 bt453.2.2.2.1)))) = some r := H
  have A3 := Aside0.mk A30
  clear A30
  replace H := Option.bind_eq_some_iff.mp H
  obtain ⟨⟨t453, t454, t455, t456, t457⟩, A40, H⟩ := H
  replace H : ((spec_BayRun.f k t445 t446 t447 t448 t449).bind fun bt459 => (if (!(t453 == bt459.1) || (!(t454 == bt459.2.1) || (!(t455 == bt459.2.2.1) || (!(t456 == bt459.2.2.2.1))))) = true then (laws_FnBayRun.j0 k t449 t457 true t445 t446 t447 t448 t453 t454 t455 t456) else (laws_FnBayRun.j0 k t449 t457 (t457 != bt459.2.2.2.2) t445 t446 t447 t448 t453 t454 t455 t456))) = some r := H
  have A4 := Aside0.mk A40
  clear A40
  replace H := Option.bind_eq_some_iff.mp H
  obtain ⟨⟨t459, t460, t461, t462, t463⟩, A50, H⟩ := H
  replace H : (if (!(t453 == t459) || (!(t454 == t460) || (!(t455 == t461) || (!(t456 == t462))))) = true then (laws_FnBayRun.j0 k t449 t457 true t445 t446 t447 t448 t453 t454 t455 t456) else (laws_FnBayRun.j0 k t449 t457 (t457 != t463) t445 t446 t447 t448 t453 t454 t455 t456)) = some r := H
  have A5 := Aside0.mk A50
  clear A50
  have HC6 := Aside0.mk H
  clear H
  go_enter Tryd.func14, Tryd.ntmps14
  have TK0_ := Aside0.mk trivial
  go_upto_region 6 with (first | (clear TK0_; (with_reducible refine gate_callee (f := 64) rfl ?_); refine goesL_ (some 20) rfl rfl Tryd.func64 (by kernel_rfl) rfl #[.slice A0 l0.length c0] rfl (by (try simp only [List.map_toArray, List.map_cons, List.map_nil]); first | done | rfl | (simp only [List.length_drop, List.length_take]; rfl)) ?_; (with_reducible refine (spec_DrawBayRun.calls k _ _ l0 t445 t446 t447 t448 t449 _ ?side1 ?side2 A3.out).mono ?_); (case side1 => repeat (first | exact HR0.out | (with_reducible refine Kd.C_alloc ?_ _) | (with_reducible refine Kd.C_drewN ?_ _) | (with_reducible refine Kd.C_drew ?_))); (case side2 => exact HC0.out); rintro e w7 ⟨v450, rfl, ho0, hb⟩; refine ⟨_, rfl, ?_⟩; have n0_ := Aside0.mk (Kd.R_lower ho0 (below_size bw)); have n1_ := Aside0.mk (below_step bw hb); clear HB; have HO451 := n0_; have HB := n1_; clear n0_ n1_; (try clear hb); (try clear hb2); (try clear hk); (try clear hi); (try clear ho0); have TK1_ := Aside0.mk trivial) | (clear TK1_; (with_reducible refine gate_dst (N := 3) rfl ?_); (try (refine gate_guard (by rfl) ?_; dsimp only)); refine box_event ?hg (N := 3) ?hd (cs := #[.bool false, .bool false, .bool false, .bool false]) (t := 59) ?hr ?_; (case hd => rfl); (case hg => rfl); (case hr => first | (go_simp; done) | (go_simp; rfl)); intro gb452 hg w8 hbox hb; have n0_ := rB HO451 hb; have n1_ := Aside0.mk (below_step bw hb); have n2_ := Aside0.mk (hbox); have n3_ := Aside0.mk ((by rw [hg]; exact (below_size bw) : w.heap.size ≤ gb452)); have n4_ := Aside0.mk ((by rw [hg]; exact (below_size bw) : w.heap.size ≤ gb452)); clear HO451 HB; have HO451 := n0_; have HB := n1_; have BK452 := n2_; have GW452 := n3_; have GE452 := n4_; clear n0_ n1_ n2_ n3_ n4_; clear hb hbox hg; have hcz9_0 : w8.cell? ⟨gb452, 0, none⟩ = some (.bool false) := (blk_cell BK452.out 0).trans rfl; have hcz9_1 : w8.cell? ⟨gb452, 1, none⟩ = some (.bool false) := (blk_cell BK452.out 1).trans rfl; have hcz9_2 : w8.cell? ⟨gb452, 2, none⟩ = some (.bool false) := (blk_cell BK452.out 2).trans rfl; have hcz9_3 : w8.cell? ⟨gb452, 3, none⟩ = some (.bool false) := (blk_cell BK452.out 3).trans rfl; have hfz9_0 := blk_frozen BK452.out 0; have hfz9_1 := blk_frozen BK452.out 1; have hfz9_2 := blk_frozen BK452.out 2; have hfz9_3 := blk_frozen BK452.out 3; obtain ⟨Ao10, co10, eo10⟩ := Kd.R_slice HO451.out; subst eo10; have TK2_ := Aside0.mk trivial) | (clear TK2_; (with_reducible refine gate_callee (f := 65) rfl ?_); refine goesL_ (some 26) rfl rfl Tryd.func65 (by kernel_rfl) rfl #[.agg #[.bool t445, .bool t446, .bool t447, .bool t448], .slice Ao10 t449.length co10] rfl (by (try simp only [List.map_toArray, List.map_cons, List.map_nil]); first | done | rfl | (simp only [List.length_drop, List.length_take]; rfl)) ?_; (with_reducible refine (impl_BayRun.calls k t445 t446 t447 t448 _ _ t449 t453 t454 t455 t456 t457 _ ?side1 ?side2 A4.out).mono ?_); (case side1 => refine (Kd.R_reads' (e := 3) (base := w.heap.size) (ok := fun k_ => True) (n := t449.length) (c := co10) ?_).2.2; exact (by (with_reducible repeat (first | apply Kd.R_alloc | apply Kd.R_drewN | apply Kd.R_drew)); exact (Kd.R_mono (Kd.R_far (p := ⟨gb452, 3, none⟩) (Kd.R_far (p := ⟨gb452, 2, none⟩) (Kd.R_far (p := ⟨gb452, 1, none⟩) (Kd.R_far (p := ⟨gb452, 0, none⟩) (Kd.R_types HO451.out BK452.out (by decide)) (fun _ hk => by first | exact hk.2 | grind) (.bool t445)) (fun _ hk => by first | exact hk.2 | grind) (.bool t446)) (fun _ hk => by first | exact hk.2 | grind) (.bool t447)) (fun _ hk => by first | exact hk.2 | grind) (.bool t448)) (fun _ h_ => h_.1)))); (case side2 => exact (Kd.R_reads' HO451.out).2.1); rintro e w11 ⟨rfl, hb⟩; refine ⟨_, rfl, ?_⟩; have n0_ := Aside0.mk (Kd.R_below (by (with_reducible repeat (first | apply Kd.R_alloc | apply Kd.R_drewN | apply Kd.R_drew)); exact (Kd.R_mono (Kd.R_far (p := ⟨gb452, 3, none⟩) (Kd.R_far (p := ⟨gb452, 2, none⟩) (Kd.R_far (p := ⟨gb452, 1, none⟩) (Kd.R_far (p := ⟨gb452, 0, none⟩) (Kd.R_types HO451.out BK452.out (by decide)) (fun _ hk => by first | exact hk.2 | grind) (.bool t445)) (fun _ hk => by first | exact hk.2 | grind) (.bool t446)) (fun _ hk => by first | exact hk.2 | grind) (.bool t447)) (fun _ hk => by first | exact hk.2 | grind) (.bool t448)) (fun _ h_ => h_.1))) hb); have n1_ := Aside0.mk (blk_below (g := gb452) (o := .cells #[.bool t445, .bool t446, .bool t447, .bool t448] 59 (0, 0)) (by (with_reducible repeat (first | refine blk_drewN ?_ _ | refine blk_drew ?_ | refine blk_alloc ?_ _)); refine blk_put (cs := #[.bool t445, .bool t446, .bool t447, .bool false]) ?_ 3 _ rfl; (with_reducible repeat (first | refine blk_drewN ?_ _ | refine blk_drew ?_ | refine blk_alloc ?_ _)); refine blk_put (cs := #[.bool t445, .bool t446, .bool false, .bool false]) ?_ 2 _ rfl; (with_reducible repeat (first | refine blk_drewN ?_ _ | refine blk_drew ?_ | refine blk_alloc ?_ _)); refine blk_put (cs := #[.bool t445, .bool false, .bool false, .bool false]) ?_ 1 _ rfl; (with_reducible repeat (first | refine blk_drewN ?_ _ | refine blk_drew ?_ | refine blk_alloc ?_ _)); refine blk_put (cs := #[.bool false, .bool false, .bool false, .bool false]) ?_ 0 _ rfl; (with_reducible repeat (first | refine blk_drewN ?_ _ | refine blk_drew ?_ | refine blk_alloc ?_ _)); exact BK452.out) hb); have n2_ := Aside0.mk (below_step bw hb); clear HO451 BK452 HB; have HO451 := n0_; have BK452 := n1_; have HB := n2_; clear n0_ n1_ n2_; (try clear hb); (try clear hb2); (try clear hk); (try clear hi); have TK3_ := Aside0.mk trivial) | (clear TK3_; (with_reducible refine gate_dst (N := 5) rfl ?_); (try (refine gate_guard (by rfl) ?_; dsimp only)); refine box_event ?hg (N := 5) ?hd (cs := #[.bool false, .bool false, .bool false, .bool false]) (t := 59) ?hr ?_; (case hd => rfl); (case hg => rfl); (case hr => first | (go_simp; done) | (go_simp; rfl)); intro gb458 hg w12 hbox hb; have n0_ := rB HO451 hb; have n1_ := bkB BK452 hb; have n2_ := Aside0.mk (below_step bw hb); have n3_ := Aside0.mk (hbox); have n4_ := Aside0.mk ((by rw [hg]; exact (below_size bw) : w.heap.size ≤ gb458)); have n5_ := Aside0.mk ((by rw [hg]; exact (below_size bw) : w.heap.size ≤ gb458)); have n6_ := Aside0.mk ((by rw [hg]; exact Nat.ne_of_lt (blk_lt (g := gb452) (o := .cells #[.bool t445, .bool t446, .bool t447, .bool t448] 59 (0, 0)) (bk BK452)) : gb452 ≠ gb458)); have n7_ := Aside0.mk ((by rw [hg]; exact Nat.ne_of_gt (blk_lt (g := gb452) (o := .cells #[.bool t445, .bool t446, .bool t447, .bool t448] 59 (0, 0)) (bk BK452)) : gb458 ≠ gb452)); clear HO451 BK452 HB; have HO451 := n0_; have BK452 := n1_; have HB := n2_; have BK458 := n3_; have GW458 := n4_; have GE458 := n5_; have NB452_458 := n6_; have NB458_452 := n7_; clear n0_ n1_ n2_ n3_ n4_ n5_ n6_ n7_; clear hb hbox hg; have hnb13 := NB458_452.out; have hnc13 := NB452_458.out; have hcz14_0 : w12.cell? ⟨gb458, 0, none⟩ = some (.bool false) := (blk_cell BK458.out 0).trans rfl; have hcz14_1 : w12.cell? ⟨gb458, 1, none⟩ = some (.bool false) := (blk_cell BK458.out 1).trans rfl; have hcz14_2 : w12.cell? ⟨gb458, 2, none⟩ = some (.bool false) := (blk_cell BK458.out 2).trans rfl; have hcz14_3 : w12.cell? ⟨gb458, 3, none⟩ = some (.bool false) := (blk_cell BK458.out 3).trans rfl; have hfz14_0 := blk_frozen BK458.out 0; have hfz14_1 := blk_frozen BK458.out 1; have hfz14_2 := blk_frozen BK458.out 2; have hfz14_3 := blk_frozen BK458.out 3; have hcz15_0 : w12.cell? ⟨gb452, 0, none⟩ = some (.bool t445) := (blk_cell BK452.out 0).trans rfl; have hcz15_1 : w12.cell? ⟨gb452, 1, none⟩ = some (.bool t446) := (blk_cell BK452.out 1).trans rfl; have hcz15_2 : w12.cell? ⟨gb452, 2, none⟩ = some (.bool t447) := (blk_cell BK452.out 2).trans rfl; have hcz15_3 : w12.cell? ⟨gb452, 3, none⟩ = some (.bool t448) := (blk_cell BK452.out 3).trans rfl; have hfz15_0 := blk_frozen BK452.out 0; have hfz15_1 := blk_frozen BK452.out 1; have hfz15_2 := blk_frozen BK452.out 2; have hfz15_3 := blk_frozen BK452.out 3; have TK4_ := Aside0.mk trivial) | (clear TK4_; (with_reducible refine gate_callee (f := 66) rfl ?_); refine goesL_ (some 32) rfl rfl Tryd.func66 (by kernel_rfl) rfl #[.agg #[.bool t445, .bool t446, .bool t447, .bool t448], .slice Ao10 t449.length co10] rfl (by (try simp only [List.map_toArray, List.map_cons, List.map_nil]); first | done | rfl | (simp only [List.length_drop, List.length_take]; rfl)) ?_; (with_reducible refine (spec_BayRun.calls k t445 t446 t447 t448 _ _ t449 t459 t460 t461 t462 t463 _ ?side1 ?side2 A5.out).mono ?_); (case side1 => refine (Kd.R_reads' (e := 3) (base := w.heap.size) (ok := fun k_ => True) (n := t449.length) (c := co10) ?_).2.2; exact (by (with_reducible repeat (first | apply Kd.R_alloc | apply Kd.R_drewN | apply Kd.R_drew)); exact (Kd.R_mono (Kd.R_far (p := ⟨gb458, 3, none⟩) (Kd.R_far (p := ⟨gb458, 2, none⟩) (Kd.R_far (p := ⟨gb458, 1, none⟩) (Kd.R_far (p := ⟨gb458, 0, none⟩) (Kd.R_types HO451.out BK458.out (by decide)) (fun _ hk => by first | exact hk.2 | grind) (.bool t453)) (fun _ hk => by first | exact hk.2 | grind) (.bool t454)) (fun _ hk => by first | exact hk.2 | grind) (.bool t455)) (fun _ hk => by first | exact hk.2 | grind) (.bool t456)) (fun _ h_ => h_.1)))); (case side2 => exact (Kd.R_reads' HO451.out).2.1); rintro e w16 ⟨rfl, hb⟩; refine ⟨_, rfl, ?_⟩; have n0_ := Aside0.mk (Kd.R_below (by (with_reducible repeat (first | apply Kd.R_alloc | apply Kd.R_drewN | apply Kd.R_drew)); exact (Kd.R_mono (Kd.R_far (p := ⟨gb458, 3, none⟩) (Kd.R_far (p := ⟨gb458, 2, none⟩) (Kd.R_far (p := ⟨gb458, 1, none⟩) (Kd.R_far (p := ⟨gb458, 0, none⟩) (Kd.R_types HO451.out BK458.out (by decide)) (fun _ hk => by first | exact hk.2 | grind) (.bool t453)) (fun _ hk => by first | exact hk.2 | grind) (.bool t454)) (fun _ hk => by first | exact hk.2 | grind) (.bool t455)) (fun _ hk => by first | exact hk.2 | grind) (.bool t456)) (fun _ h_ => h_.1))) hb); have n1_ := Aside0.mk (blk_below (g := gb452) (o := .cells #[.bool t445, .bool t446, .bool t447, .bool t448] 59 (0, 0)) (by (with_reducible repeat (first | refine blk_drewN ?_ _ | refine blk_drew ?_ | refine blk_alloc ?_ _)); refine blk_far ?_ NB452_458.out _; (with_reducible repeat (first | refine blk_drewN ?_ _ | refine blk_drew ?_ | refine blk_alloc ?_ _)); refine blk_far ?_ NB452_458.out _; (with_reducible repeat (first | refine blk_drewN ?_ _ | refine blk_drew ?_ | refine blk_alloc ?_ _)); refine blk_far ?_ NB452_458.out _; (with_reducible repeat (first | refine blk_drewN ?_ _ | refine blk_drew ?_ | refine blk_alloc ?_ _)); refine blk_far ?_ NB452_458.out _; (with_reducible repeat (first | refine blk_drewN ?_ _ | refine blk_drew ?_ | refine blk_alloc ?_ _)); exact BK452.out) hb); have n2_ := Aside0.mk (blk_below (g := gb458) (o := .cells #[.bool t453, .bool t454, .bool t455, .bool t456] 59 (0, 0)) (by (with_reducible repeat (first | refine blk_drewN ?_ _ | refine blk_drew ?_ | refine blk_alloc ?_ _)); refine blk_put (cs := #[.bool t453, .bool t454, .bool t455, .bool false]) ?_ 3 _ rfl; (with_reducible repeat (first | refine blk_drewN ?_ _ | refine blk_drew ?_ | refine blk_alloc ?_ _)); refine blk_put (cs := #[.bool t453, .bool t454, .bool false, .bool false]) ?_ 2 _ rfl; (with_reducible repeat (first | refine blk_drewN ?_ _ | refine blk_drew ?_ | refine blk_alloc ?_ _)); refine blk_put (cs := #[.bool t453, .bool false, .bool false, .bool false]) ?_ 1 _ rfl; (with_reducible repeat (first | refine blk_drewN ?_ _ | refine blk_drew ?_ | refine blk_alloc ?_ _)); refine blk_put (cs := #[.bool false, .bool false, .bool false, .bool false]) ?_ 0 _ rfl; (with_reducible repeat (first | refine blk_drewN ?_ _ | refine blk_drew ?_ | refine blk_alloc ?_ _)); exact BK458.out) hb); have n3_ := Aside0.mk (below_step bw hb); clear HO451 BK452 BK458 HB; have HO451 := n0_; have BK452 := n1_; have BK458 := n2_; have HB := n3_; clear n0_ n1_ n2_ n3_; (try clear hb); (try clear hb2); (try clear hk); (try clear hi); have TK5_ := Aside0.mk trivial) | (clear TK5_; (with_reducible refine gate_dst (N := 7) rfl ?_); (try (refine gate_guard (by rfl) ?_; dsimp only)); refine box_event ?hg (N := 7) ?hd (cs := #[.bool false, .bool false, .bool false, .bool false]) (t := 59) ?hr ?_; (case hd => rfl); (case hg => rfl); (case hr => first | (go_simp; done) | (go_simp; rfl)); intro gb464 hg w17 hbox hb; have n0_ := rB HO451 hb; have n1_ := bkB BK452 hb; have n2_ := bkB BK458 hb; have n3_ := Aside0.mk (below_step bw hb); have n4_ := Aside0.mk (hbox); have n5_ := Aside0.mk ((by rw [hg]; exact (below_size bw) : w.heap.size ≤ gb464)); have n6_ := Aside0.mk ((by rw [hg]; exact (below_size bw) : w.heap.size ≤ gb464)); have n7_ := Aside0.mk ((by rw [hg]; exact Nat.ne_of_lt (blk_lt (g := gb452) (o := .cells #[.bool t445, .bool t446, .bool t447, .bool t448] 59 (0, 0)) (bk BK452)) : gb452 ≠ gb464)); have n8_ := Aside0.mk ((by rw [hg]; exact Nat.ne_of_gt (blk_lt (g := gb452) (o := .cells #[.bool t445, .bool t446, .bool t447, .bool t448] 59 (0, 0)) (bk BK452)) : gb464 ≠ gb452)); have n9_ := Aside0.mk ((by rw [hg]; exact Nat.ne_of_lt (blk_lt (g := gb458) (o := .cells #[.bool t453, .bool t454, .bool t455, .bool t456] 59 (0, 0)) (bk BK458)) : gb458 ≠ gb464)); have n10_ := Aside0.mk ((by rw [hg]; exact Nat.ne_of_gt (blk_lt (g := gb458) (o := .cells #[.bool t453, .bool t454, .bool t455, .bool t456] 59 (0, 0)) (bk BK458)) : gb464 ≠ gb458)); clear HO451 BK452 BK458 HB; have HO451 := n0_; have BK452 := n1_; have BK458 := n2_; have HB := n3_; have BK464 := n4_; have GW464 := n5_; have GE464 := n6_; have NB452_464 := n7_; have NB464_452 := n8_; have NB458_464 := n9_; have NB464_458 := n10_; clear n0_ n1_ n2_ n3_ n4_ n5_ n6_ n7_ n8_ n9_ n10_; clear hb hbox hg; have hnb18 := NB464_452.out; have hnc18 := NB452_464.out; have hnb19 := NB464_458.out; have hnc19 := NB458_464.out; have hcz20_0 : w17.cell? ⟨gb464, 0, none⟩ = some (.bool false) := (blk_cell BK464.out 0).trans rfl; have hcz20_1 : w17.cell? ⟨gb464, 1, none⟩ = some (.bool false) := (blk_cell BK464.out 1).trans rfl; have hcz20_2 : w17.cell? ⟨gb464, 2, none⟩ = some (.bool false) := (blk_cell BK464.out 2).trans rfl; have hcz20_3 : w17.cell? ⟨gb464, 3, none⟩ = some (.bool false) := (blk_cell BK464.out 3).trans rfl; have hfz20_0 := blk_frozen BK464.out 0; have hfz20_1 := blk_frozen BK464.out 1; have hfz20_2 := blk_frozen BK464.out 2; have hfz20_3 := blk_frozen BK464.out 3; have TK6_ := Aside0.mk trivial))
  (try simp only [Act.put, List.setIfInBounds_toArray, List.set_cons_zero, List.set_cons_succ])
  go_cut [42] (fun v42 wc => ∃ (kq : Nat) (x42_5 : Bool), v42 = .bool x42_5 ∧ Aside0 (laws_FnBayRun.j0 kq t449 t457 x42_5 t445 t446 t447 t448 t453 t454 t455 t456 = some r) ∧ Aside0 (kq ≤ k) ∧ Aside0 (Kd.R (Kd.int .i64) 3 wc w.heap.size (fun _ => True) (.slice Ao10 t449.length co10) t449) ∧ Aside0 (wc.heap[gb452]? = some (.cells #[.bool t445, .bool t446, .bool t447, .bool t448] 59 (0, 0))) ∧ Aside0 (wc.heap[gb458]? = some (.cells #[.bool t453, .bool t454, .bool t455, .bool t456] 59 (0, 0))) ∧ Aside0 (wc.heap[gb464]? = some (.cells #[.bool t459, .bool t460, .bool t461, .bool t462] 59 (0, 0))) ∧ Aside0 (Below w.heap.size w wc))
  case first =>
   have H := HC6.out
   clear HC6
   by_cases c21 : (!(t453 == t459) || (!(t454 == t460) || (!(t455 == t461) || (!(t456 == t462))))) = true
   ·rw [if_pos c21] at H
    have c21b0 : (!(t453 == t459) || (!(t454 == t460) || (!(t455 == t461) || (!(t456 == t462))))) = true := c21
    clear c21
    (first | rw [c21b0] | (simp only [i64_w, i32_w]; rw [c21b0]) | skip)
    have H' := Aside0.mk H
    clear H
    have hnb22 := NB458_452.out
    have hnc22 := NB452_458.out
    have hnb23 := NB458_464.out
    have hnc23 := NB464_458.out
    have hcz24_0 : w17.cell? ⟨gb458, 0, none⟩ = some (.bool t453) := (blk_cell BK458.out 0).trans rfl
    have hcz24_1 : w17.cell? ⟨gb458, 1, none⟩ = some (.bool t454) := (blk_cell BK458.out 1).trans rfl
    have hcz24_2 : w17.cell? ⟨gb458, 2, none⟩ = some (.bool t455) := (blk_cell BK458.out 2).trans rfl
    have hcz24_3 : w17.cell? ⟨gb458, 3, none⟩ = some (.bool t456) := (blk_cell BK458.out 3).trans rfl
    have hfz24_0 := blk_frozen BK458.out 0
    have hfz24_1 := blk_frozen BK458.out 1
    have hfz24_2 := blk_frozen BK458.out 2
    have hfz24_3 := blk_frozen BK458.out 3
    have hnb25 := NB464_452.out
    have hnc25 := NB452_464.out
    have hcz26_0 : w17.cell? ⟨gb464, 0, none⟩ = some (.bool false) := (blk_cell BK464.out 0).trans rfl
    have hcz26_1 : w17.cell? ⟨gb464, 1, none⟩ = some (.bool false) := (blk_cell BK464.out 1).trans rfl
    have hcz26_2 : w17.cell? ⟨gb464, 2, none⟩ = some (.bool false) := (blk_cell BK464.out 2).trans rfl
    have hcz26_3 : w17.cell? ⟨gb464, 3, none⟩ = some (.bool false) := (blk_cell BK464.out 3).trans rfl
    have hfz26_0 := blk_frozen BK464.out 0
    have hfz26_1 := blk_frozen BK464.out 1
    have hfz26_2 := blk_frozen BK464.out 2
    have hfz26_3 := blk_frozen BK464.out 3
    go_wp2
    go_meet
    case rel => exact ⟨_, (true), (by first | rfl | (simp; done) | (simp [*]; done)), H', ⟨by first | omega | exact Nat.le_refl _⟩, ⟨by (with_reducible repeat (first | apply Kd.R_alloc | apply Kd.R_drewN | apply Kd.R_drew)); exact Kd.R_mono (Kd.R_far (p := ⟨gb464, 3, none⟩) (Kd.R_far (p := ⟨gb464, 2, none⟩) (Kd.R_far (p := ⟨gb464, 1, none⟩) (Kd.R_far (p := ⟨gb464, 0, none⟩) (Kd.R_types HO451.out BK464.out (by decide)) (fun _ hk => by first | exact hk.2 | grind) (.bool t459)) (fun _ hk => by first | exact hk.2 | grind) (.bool t460)) (fun _ hk => by first | exact hk.2 | grind) (.bool t461)) (fun _ hk => by first | exact hk.2 | grind) (.bool t462)) (fun _ hk => trivial)⟩, ⟨by (with_reducible repeat (first | refine blk_drewN ?_ _ | refine blk_drew ?_ | refine blk_alloc ?_ _)); refine blk_far ?_ NB452_464.out _; (with_reducible repeat (first | refine blk_drewN ?_ _ | refine blk_drew ?_ | refine blk_alloc ?_ _)); refine blk_far ?_ NB452_464.out _; (with_reducible repeat (first | refine blk_drewN ?_ _ | refine blk_drew ?_ | refine blk_alloc ?_ _)); refine blk_far ?_ NB452_464.out _; (with_reducible repeat (first | refine blk_drewN ?_ _ | refine blk_drew ?_ | refine blk_alloc ?_ _)); refine blk_far ?_ NB452_464.out _; (with_reducible repeat (first | refine blk_drewN ?_ _ | refine blk_drew ?_ | refine blk_alloc ?_ _)); exact BK452.out⟩, ⟨by (with_reducible repeat (first | refine blk_drewN ?_ _ | refine blk_drew ?_ | refine blk_alloc ?_ _)); refine blk_far ?_ NB458_464.out _; (with_reducible repeat (first | refine blk_drewN ?_ _ | refine blk_drew ?_ | refine blk_alloc ?_ _)); refine blk_far ?_ NB458_464.out _; (with_reducible repeat (first | refine blk_drewN ?_ _ | refine blk_drew ?_ | refine blk_alloc ?_ _)); refine blk_far ?_ NB458_464.out _; (with_reducible repeat (first | refine blk_drewN ?_ _ | refine blk_drew ?_ | refine blk_alloc ?_ _)); refine blk_far ?_ NB458_464.out _; (with_reducible repeat (first | refine blk_drewN ?_ _ | refine blk_drew ?_ | refine blk_alloc ?_ _)); exact BK458.out⟩, ⟨by (with_reducible repeat (first | refine blk_drewN ?_ _ | refine blk_drew ?_ | refine blk_alloc ?_ _)); refine blk_put (cs := #[.bool t459, .bool t460, .bool t461, .bool false]) ?_ 3 _ rfl; (with_reducible repeat (first | refine blk_drewN ?_ _ | refine blk_drew ?_ | refine blk_alloc ?_ _)); refine blk_put (cs := #[.bool t459, .bool t460, .bool false, .bool false]) ?_ 2 _ rfl; (with_reducible repeat (first | refine blk_drewN ?_ _ | refine blk_drew ?_ | refine blk_alloc ?_ _)); refine blk_put (cs := #[.bool t459, .bool false, .bool false, .bool false]) ?_ 1 _ rfl; (with_reducible repeat (first | refine blk_drewN ?_ _ | refine blk_drew ?_ | refine blk_alloc ?_ _)); refine blk_put (cs := #[.bool false, .bool false, .bool false, .bool false]) ?_ 0 _ rfl; (with_reducible repeat (first | refine blk_drewN ?_ _ | refine blk_drew ?_ | refine blk_alloc ?_ _)); exact BK464.out⟩, ⟨bw⟩⟩
   ·rw [if_neg c21] at H
    have c21b0 : (!(t453 == t459) || (!(t454 == t460) || (!(t455 == t461) || (!(t456 == t462))))) = false := by simpa using c21
    clear c21
    (first | rw [c21b0] | (simp only [i64_w, i32_w]; rw [c21b0]) | skip)
    have H' := Aside0.mk H
    clear H
    have hnb27 := NB458_452.out
    have hnc27 := NB452_458.out
    have hnb28 := NB458_464.out
    have hnc28 := NB464_458.out
    have hcz29_0 : w17.cell? ⟨gb458, 0, none⟩ = some (.bool t453) := (blk_cell BK458.out 0).trans rfl
    have hcz29_1 : w17.cell? ⟨gb458, 1, none⟩ = some (.bool t454) := (blk_cell BK458.out 1).trans rfl
    have hcz29_2 : w17.cell? ⟨gb458, 2, none⟩ = some (.bool t455) := (blk_cell BK458.out 2).trans rfl
    have hcz29_3 : w17.cell? ⟨gb458, 3, none⟩ = some (.bool t456) := (blk_cell BK458.out 3).trans rfl
    have hfz29_0 := blk_frozen BK458.out 0
    have hfz29_1 := blk_frozen BK458.out 1
    have hfz29_2 := blk_frozen BK458.out 2
    have hfz29_3 := blk_frozen BK458.out 3
    have hnb30 := NB464_452.out
    have hnc30 := NB452_464.out
    have hcz31_0 : w17.cell? ⟨gb464, 0, none⟩ = some (.bool false) := (blk_cell BK464.out 0).trans rfl
    have hcz31_1 : w17.cell? ⟨gb464, 1, none⟩ = some (.bool false) := (blk_cell BK464.out 1).trans rfl
    have hcz31_2 : w17.cell? ⟨gb464, 2, none⟩ = some (.bool false) := (blk_cell BK464.out 2).trans rfl
    have hcz31_3 : w17.cell? ⟨gb464, 3, none⟩ = some (.bool false) := (blk_cell BK464.out 3).trans rfl
    have hfz31_0 := blk_frozen BK464.out 0
    have hfz31_1 := blk_frozen BK464.out 1
    have hfz31_2 := blk_frozen BK464.out 2
    have hfz31_3 := blk_frozen BK464.out 3
    go_wp2
    go_meet
    case rel => exact ⟨_, ((t457 != t463)), (by first | rfl | (simp; done) | (simp [*]; done)), H', ⟨by first | omega | exact Nat.le_refl _⟩, ⟨by (with_reducible repeat (first | apply Kd.R_alloc | apply Kd.R_drewN | apply Kd.R_drew)); exact Kd.R_mono (Kd.R_far (p := ⟨gb464, 3, none⟩) (Kd.R_far (p := ⟨gb464, 2, none⟩) (Kd.R_far (p := ⟨gb464, 1, none⟩) (Kd.R_far (p := ⟨gb464, 0, none⟩) (Kd.R_types HO451.out BK464.out (by decide)) (fun _ hk => by first | exact hk.2 | grind) (.bool t459)) (fun _ hk => by first | exact hk.2 | grind) (.bool t460)) (fun _ hk => by first | exact hk.2 | grind) (.bool t461)) (fun _ hk => by first | exact hk.2 | grind) (.bool t462)) (fun _ hk => trivial)⟩, ⟨by (with_reducible repeat (first | refine blk_drewN ?_ _ | refine blk_drew ?_ | refine blk_alloc ?_ _)); refine blk_far ?_ NB452_464.out _; (with_reducible repeat (first | refine blk_drewN ?_ _ | refine blk_drew ?_ | refine blk_alloc ?_ _)); refine blk_far ?_ NB452_464.out _; (with_reducible repeat (first | refine blk_drewN ?_ _ | refine blk_drew ?_ | refine blk_alloc ?_ _)); refine blk_far ?_ NB452_464.out _; (with_reducible repeat (first | refine blk_drewN ?_ _ | refine blk_drew ?_ | refine blk_alloc ?_ _)); refine blk_far ?_ NB452_464.out _; (with_reducible repeat (first | refine blk_drewN ?_ _ | refine blk_drew ?_ | refine blk_alloc ?_ _)); exact BK452.out⟩, ⟨by (with_reducible repeat (first | refine blk_drewN ?_ _ | refine blk_drew ?_ | refine blk_alloc ?_ _)); refine blk_far ?_ NB458_464.out _; (with_reducible repeat (first | refine blk_drewN ?_ _ | refine blk_drew ?_ | refine blk_alloc ?_ _)); refine blk_far ?_ NB458_464.out _; (with_reducible repeat (first | refine blk_drewN ?_ _ | refine blk_drew ?_ | refine blk_alloc ?_ _)); refine blk_far ?_ NB458_464.out _; (with_reducible repeat (first | refine blk_drewN ?_ _ | refine blk_drew ?_ | refine blk_alloc ?_ _)); refine blk_far ?_ NB458_464.out _; (with_reducible repeat (first | refine blk_drewN ?_ _ | refine blk_drew ?_ | refine blk_alloc ?_ _)); exact BK458.out⟩, ⟨by (with_reducible repeat (first | refine blk_drewN ?_ _ | refine blk_drew ?_ | refine blk_alloc ?_ _)); refine blk_put (cs := #[.bool t459, .bool t460, .bool t461, .bool false]) ?_ 3 _ rfl; (with_reducible repeat (first | refine blk_drewN ?_ _ | refine blk_drew ?_ | refine blk_alloc ?_ _)); refine blk_put (cs := #[.bool t459, .bool t460, .bool false, .bool false]) ?_ 2 _ rfl; (with_reducible repeat (first | refine blk_drewN ?_ _ | refine blk_drew ?_ | refine blk_alloc ?_ _)); refine blk_put (cs := #[.bool t459, .bool false, .bool false, .bool false]) ?_ 1 _ rfl; (with_reducible repeat (first | refine blk_drewN ?_ _ | refine blk_drew ?_ | refine blk_alloc ?_ _)); refine blk_put (cs := #[.bool false, .bool false, .bool false, .bool false]) ?_ 0 _ rfl; (with_reducible repeat (first | refine blk_drewN ?_ _ | refine blk_drew ?_ | refine blk_alloc ?_ _)); exact BK464.out⟩, ⟨bw⟩⟩
  case rest =>
   clear HC6
   try clear c1
   try clear c2
   try clear c2b0
   try clear c2b1
   try clear p2
   try clear c3
   try clear c6
   try clear c13
   try clear c14
   try clear c18
   try clear c19
   try clear c21
   try clear c21b0
   try clear c22
   try clear c23
   try clear c25
   try clear c27
   try clear c28
   try clear c30
   try clear hcz14_0
   try clear hcz14_1
   try clear hcz14_2
   try clear hcz14_3
   try clear hcz15_0
   try clear hcz15_1
   try clear hcz15_2
   try clear hcz15_3
   try clear hcz20_0
   try clear hcz20_1
   try clear hcz20_2
   try clear hcz20_3
   try clear hcz24_0
   try clear hcz24_1
   try clear hcz24_2
   try clear hcz24_3
   try clear hcz26_0
   try clear hcz26_1
   try clear hcz26_2
   try clear hcz26_3
   try clear hcz29_0
   try clear hcz29_1
   try clear hcz29_2
   try clear hcz29_3
   try clear hcz31_0
   try clear hcz31_1
   try clear hcz31_2
   try clear hcz31_3
   try clear hcz9_0
   try clear hcz9_1
   try clear hcz9_2
   try clear hcz9_3
   try clear hfz14_0
   try clear hfz14_1
   try clear hfz14_2
   try clear hfz14_3
   try clear hfz15_0
   try clear hfz15_1
   try clear hfz15_2
   try clear hfz15_3
   try clear hfz20_0
   try clear hfz20_1
   try clear hfz20_2
   try clear hfz20_3
   try clear hfz24_0
   try clear hfz24_1
   try clear hfz24_2
   try clear hfz24_3
   try clear hfz26_0
   try clear hfz26_1
   try clear hfz26_2
   try clear hfz26_3
   try clear hfz29_0
   try clear hfz29_1
   try clear hfz29_2
   try clear hfz29_3
   try clear hfz31_0
   try clear hfz31_1
   try clear hfz31_2
   try clear hfz31_3
   try clear hfz9_0
   try clear hfz9_1
   try clear hfz9_2
   try clear hfz9_3
   obtain ⟨kq, x42_5, rfl, HA, HJ5, HO_4, BK452, BK458, BK464, HB⟩ := hcut
   cases kq with
   | zero => exact absurd HA.out (by simp [laws_FnBayRun.j0])
   | succ kj5 =>
    have H := HA.out
    clear HA
    simp only [laws_FnBayRun.j0] at H
    by_cases c32 : x42_5 = true
    ·subst c32
     have H1 : (some false) = some r := by rw [if_pos rfl] at H; exact H
     clear H
     have H := H1
     clear H1
     obtain rfl := Option.some.inj H
     go_wp2
     go_ret
     exact ⟨by first | rfl | (simp [errW_none, errW_some] <;> rfl) | (simp [*, errW_none, errW_some] <;> rfl), bw⟩
    ·replace c32 := Bool.eq_false_iff.mpr c32
     subst c32
     have H1 : (if t457 < 0 then (laws_FnBayRun.j1 kj5 t449 t457 true t445 t446 t447 t448 t453 t454 t455 t456) else (if t457 > (t449.length : Int) then (laws_FnBayRun.j1 kj5 t449 t457 true t445 t446 t447 t448 t453 t454 t455 t456) else ((impl_BaySafe.f t445 t446 t447 t448).bind fun t465 => (if t465 = true then ((impl_BaySafe.f t453 t454 t455 t456).bind fun t466 => (laws_FnBayRun.j1 kj5 t449 t457 (!t466) t445 t446 t447 t448 t453 t454 t455 t456)) else (laws_FnBayRun.j1 kj5 t449 t457 false t445 t446 t447 t448 t453 t454 t455 t456))))) = some r := by rw [if_neg (show ¬ (false = true) by decide)] at H; exact H
     clear H
     have H := H1
     clear H1
     have HC33 := Aside0.mk H
     clear H
     go_upto_region 8 with (fail)
     go_cut [59] (fun v59 wc => ∃ (kq : Nat) (x59_32 : Bool), v59 = .bool x59_32 ∧ Aside0 (laws_FnBayRun.j1 kq t449 t457 x59_32 t445 t446 t447 t448 t453 t454 t455 t456 = some r) ∧ Aside0 (kq ≤ kj5) ∧ Aside0 (Kd.R (Kd.int .i64) 3 wc w.heap.size (fun _ => True) (.slice Ao10 t449.length co10) t449) ∧ Aside0 (wc.heap[gb452]? = some (.cells #[.bool t445, .bool t446, .bool t447, .bool t448] 59 (0, 0))) ∧ Aside0 (wc.heap[gb458]? = some (.cells #[.bool t453, .bool t454, .bool t455, .bool t456] 59 (0, 0))) ∧ Aside0 (wc.heap[gb464]? = some (.cells #[.bool t459, .bool t460, .bool t461, .bool t462] 59 (0, 0))) ∧ Aside0 (Below w.heap.size w wc))
     case first =>
      have H := HC33.out
      clear HC33
      by_cases c34 : t457 < 0
      ·rw [if_pos c34] at H
       have c34b0 : decide (t457 < 0) = true := decide_eq_true c34
       clear c34
       (first | rw [c34b0] | (simp only [i64_w, i32_w]; rw [c34b0]) | skip)
       have H' := Aside0.mk H
       clear H
       go_wp2
       go_meet
       case rel => exact ⟨_, (true), (by first | rfl | (simp; done) | (simp [*]; done)), H', ⟨by have := HJ5.out; first | omega | exact Nat.le_refl _⟩, ⟨rk HO_4⟩, ⟨bk BK452⟩, ⟨bk BK458⟩, ⟨bk BK464⟩, ⟨bw⟩⟩
      ·rw [if_neg c34] at H
       have c34b0 : decide (t457 < 0) = false := decide_eq_false c34
       clear c34
       (first | rw [c34b0] | (simp only [i64_w, i32_w]; rw [c34b0]) | skip)
       by_cases c35 : t457 > (t449.length : Int)
       ·rw [if_pos c35] at H
        have c35b0 : decide ((t449.length : Int) < t457) = true := decide_eq_true c35
        clear c35
        have H' := Aside0.mk H
        clear H
        go_wp2
        go_meet
        case rel => exact ⟨_, (true), (by first | rfl | (simp; done) | (simp [*]; done)), H', ⟨by have := HJ5.out; first | omega | exact Nat.le_refl _⟩, ⟨rk HO_4⟩, ⟨bk BK452⟩, ⟨bk BK458⟩, ⟨bk BK464⟩, ⟨bw⟩⟩
       ·rw [if_neg c35] at H
        have c35b0 : decide ((t449.length : Int) < t457) = false := decide_eq_false c35
        clear c35
        replace H := Option.bind_eq_some_iff.mp H
        obtain ⟨t465, A360, H⟩ := H
        replace H : (if t465 = true then ((impl_BaySafe.f t453 t454 t455 t456).bind fun t466 => (laws_FnBayRun.j1 kj5 t449 t457 (!t466) t445 t446 t447 t448 t453 t454 t455 t456)) else (laws_FnBayRun.j1 kj5 t449 t457 false t445 t446 t447 t448 t453 t454 t455 t456)) = some r := H
        have A36 := Aside0.mk A360
        clear A360
        by_cases c37 : t465 = true
        ·subst c37
         have H1 : ((impl_BaySafe.f t453 t454 t455 t456).bind fun t466 => (laws_FnBayRun.j1 kj5 t449 t457 (!t466) t445 t446 t447 t448 t453 t454 t455 t456)) = some r := by rw [if_pos rfl] at H; exact H
         clear H
         have H := H1
         clear H1
         replace H := Option.bind_eq_some_iff.mp H
         obtain ⟨t466, A380, H⟩ := H
         replace H : (laws_FnBayRun.j1 kj5 t449 t457 (!t466) t445 t446 t447 t448 t453 t454 t455 t456) = some r := H
         have A38 := Aside0.mk A380
         clear A380
         have H' := Aside0.mk H
         clear H
         have hnb39 := NB452_458.out
         have hnc39 := NB458_452.out
         have hnb40 := NB452_464.out
         have hnc40 := NB464_452.out
         have hcz41_0 : wc.cell? ⟨gb452, 0, none⟩ = some (.bool t445) := (blk_cell BK452.out 0).trans rfl
         have hcz41_1 : wc.cell? ⟨gb452, 1, none⟩ = some (.bool t446) := (blk_cell BK452.out 1).trans rfl
         have hcz41_2 : wc.cell? ⟨gb452, 2, none⟩ = some (.bool t447) := (blk_cell BK452.out 2).trans rfl
         have hcz41_3 : wc.cell? ⟨gb452, 3, none⟩ = some (.bool t448) := (blk_cell BK452.out 3).trans rfl
         have hfz41_0 := blk_frozen BK452.out 0
         have hfz41_1 := blk_frozen BK452.out 1
         have hfz41_2 := blk_frozen BK452.out 2
         have hfz41_3 := blk_frozen BK452.out 3
         go_wp2_with (first | (go_at_call 43; (with_reducible refine (impl_BaySafe.calls t445 t446 t447 t448 true _ A36.out).mono ?_); rintro e w42 ⟨rfl, hb⟩; have n0_ := rB HO_4 hb; have n1_ := bkB BK452 hb; have n2_ := bkB BK458 hb; have n3_ := bkB BK464 hb; have n4_ := Aside0.mk (below_step bw hb); clear HO_4 BK452 BK458 BK464 HB; have HO_4 := n0_; have BK452 := n1_; have BK458 := n2_; have BK464 := n3_; have HB := n4_; clear n0_ n1_ n2_ n3_ n4_; (try clear hb); (try clear hb2); (try clear hk); (try clear hi); have hnb43 := NB458_464.out; have hnc43 := NB464_458.out; have hcz44_0 : w42.cell? ⟨gb458, 0, none⟩ = some (.bool t453) := (blk_cell BK458.out 0).trans rfl; have hcz44_1 : w42.cell? ⟨gb458, 1, none⟩ = some (.bool t454) := (blk_cell BK458.out 1).trans rfl; have hcz44_2 : w42.cell? ⟨gb458, 2, none⟩ = some (.bool t455) := (blk_cell BK458.out 2).trans rfl; have hcz44_3 : w42.cell? ⟨gb458, 3, none⟩ = some (.bool t456) := (blk_cell BK458.out 3).trans rfl; have hfz44_0 := blk_frozen BK458.out 0; have hfz44_1 := blk_frozen BK458.out 1; have hfz44_2 := blk_frozen BK458.out 2; have hfz44_3 := blk_frozen BK458.out 3) | (go_at_call 43; (with_reducible refine (impl_BaySafe.calls t453 t454 t455 t456 t466 _ A38.out).mono ?_); rintro e w45 ⟨rfl, hb⟩; have n0_ := rB HO_4 hb; have n1_ := bkB BK452 hb; have n2_ := bkB BK458 hb; have n3_ := bkB BK464 hb; have n4_ := Aside0.mk (below_step bw hb); clear HO_4 BK452 BK458 BK464 HB; have HO_4 := n0_; have BK452 := n1_; have BK458 := n2_; have BK464 := n3_; have HB := n4_; clear n0_ n1_ n2_ n3_ n4_; (try clear hb); (try clear hb2); (try clear hk); (try clear hi)))
         go_meet
         case rel => exact ⟨_, (!t466), (by first | rfl | (simp; done) | (simp [*]; done)), H', ⟨by have := HJ5.out; first | omega | exact Nat.le_refl _⟩, ⟨rk HO_4⟩, ⟨bk BK452⟩, ⟨bk BK458⟩, ⟨bk BK464⟩, ⟨bw⟩⟩
        ·replace c37 := Bool.eq_false_iff.mpr c37
         subst c37
         have H1 : (laws_FnBayRun.j1 kj5 t449 t457 false t445 t446 t447 t448 t453 t454 t455 t456) = some r := by rw [if_neg (show ¬ (false = true) by decide)] at H; exact H
         clear H
         have H := H1
         clear H1
         have H' := Aside0.mk H
         clear H
         have hnb46 := NB452_458.out
         have hnc46 := NB458_452.out
         have hnb47 := NB452_464.out
         have hnc47 := NB464_452.out
         have hcz48_0 : wc.cell? ⟨gb452, 0, none⟩ = some (.bool t445) := (blk_cell BK452.out 0).trans rfl
         have hcz48_1 : wc.cell? ⟨gb452, 1, none⟩ = some (.bool t446) := (blk_cell BK452.out 1).trans rfl
         have hcz48_2 : wc.cell? ⟨gb452, 2, none⟩ = some (.bool t447) := (blk_cell BK452.out 2).trans rfl
         have hcz48_3 : wc.cell? ⟨gb452, 3, none⟩ = some (.bool t448) := (blk_cell BK452.out 3).trans rfl
         have hfz48_0 := blk_frozen BK452.out 0
         have hfz48_1 := blk_frozen BK452.out 1
         have hfz48_2 := blk_frozen BK452.out 2
         have hfz48_3 := blk_frozen BK452.out 3
         go_wp2_with (first | (go_at_call 43; (with_reducible refine (impl_BaySafe.calls t445 t446 t447 t448 false _ A36.out).mono ?_); rintro e w49 ⟨rfl, hb⟩; have n0_ := rB HO_4 hb; have n1_ := bkB BK452 hb; have n2_ := bkB BK458 hb; have n3_ := bkB BK464 hb; have n4_ := Aside0.mk (below_step bw hb); clear HO_4 BK452 BK458 BK464 HB; have HO_4 := n0_; have BK452 := n1_; have BK458 := n2_; have BK464 := n3_; have HB := n4_; clear n0_ n1_ n2_ n3_ n4_; (try clear hb); (try clear hb2); (try clear hk); (try clear hi)))
         go_meet
         case rel => exact ⟨_, (false), (by first | rfl | (simp; done) | (simp [*]; done)), H', ⟨by have := HJ5.out; first | omega | exact Nat.le_refl _⟩, ⟨rk HO_4⟩, ⟨bk BK452⟩, ⟨bk BK458⟩, ⟨bk BK464⟩, ⟨bw⟩⟩
     case rest =>
      clear HC33
      try clear c1
      try clear c2
      try clear c2b0
      try clear c2b1
      try clear p2
      try clear c3
      try clear c4
      try clear c6
      try clear c13
      try clear c14
      try clear c18
      try clear c19
      try clear c21
      try clear c21b0
      try clear c22
      try clear c23
      try clear c25
      try clear c27
      try clear c28
      try clear c30
      try clear c32
      try clear c34
      try clear c34b0
      try clear c35
      try clear c35b0
      try clear c37
      try clear c39
      try clear c40
      try clear c43
      try clear c46
      try clear c47
      try clear hcz14_0
      try clear hcz14_1
      try clear hcz14_2
      try clear hcz14_3
      try clear hcz15_0
      try clear hcz15_1
      try clear hcz15_2
      try clear hcz15_3
      try clear hcz20_0
      try clear hcz20_1
      try clear hcz20_2
      try clear hcz20_3
      try clear hcz24_0
      try clear hcz24_1
      try clear hcz24_2
      try clear hcz24_3
      try clear hcz26_0
      try clear hcz26_1
      try clear hcz26_2
      try clear hcz26_3
      try clear hcz29_0
      try clear hcz29_1
      try clear hcz29_2
      try clear hcz29_3
      try clear hcz31_0
      try clear hcz31_1
      try clear hcz31_2
      try clear hcz31_3
      try clear hcz41_0
      try clear hcz41_1
      try clear hcz41_2
      try clear hcz41_3
      try clear hcz44_0
      try clear hcz44_1
      try clear hcz44_2
      try clear hcz44_3
      try clear hcz48_0
      try clear hcz48_1
      try clear hcz48_2
      try clear hcz48_3
      try clear hcz9_0
      try clear hcz9_1
      try clear hcz9_2
      try clear hcz9_3
      try clear hfz14_0
      try clear hfz14_1
      try clear hfz14_2
      try clear hfz14_3
      try clear hfz15_0
      try clear hfz15_1
      try clear hfz15_2
      try clear hfz15_3
      try clear hfz20_0
      try clear hfz20_1
      try clear hfz20_2
      try clear hfz20_3
      try clear hfz24_0
      try clear hfz24_1
      try clear hfz24_2
      try clear hfz24_3
      try clear hfz26_0
      try clear hfz26_1
      try clear hfz26_2
      try clear hfz26_3
      try clear hfz29_0
      try clear hfz29_1
      try clear hfz29_2
      try clear hfz29_3
      try clear hfz31_0
      try clear hfz31_1
      try clear hfz31_2
      try clear hfz31_3
      try clear hfz41_0
      try clear hfz41_1
      try clear hfz41_2
      try clear hfz41_3
      try clear hfz44_0
      try clear hfz44_1
      try clear hfz44_2
      try clear hfz44_3
      try clear hfz48_0
      try clear hfz48_1
      try clear hfz48_2
      try clear hfz48_3
      try clear hfz9_0
      try clear hfz9_1
      try clear hfz9_2
      try clear hfz9_3
      try clear p2
      obtain ⟨kq, x59_32, rfl, HA, HJ32, HO_4, BK452, BK458, BK464, HB⟩ := hcut
      cases kq with
      | zero => exact absurd HA.out (by simp [laws_FnBayRun.j1])
      | succ kj32 =>
       have H := HA.out
       clear HA
       simp only [laws_FnBayRun.j1] at H
       by_cases c50 : x59_32 = true
       ·subst c50
        have H1 : (some false) = some r := by rw [if_pos rfl] at H; exact H
        clear H
        have H := H1
        clear H1
        obtain rfl := Option.some.inj H
        go_wp2
        go_ret
        exact ⟨by first | rfl | (simp [errW_none, errW_some] <;> rfl) | (simp [*, errW_none, errW_some] <;> rfl), bw⟩
       ·replace c50 := Bool.eq_false_iff.mpr c50
        subst c50
        have H1 : (if 0 ≤ t457 then (if t457 ≤ (t449.length : Int) then ((impl_BayRun.f kj32 t445 t446 t447 t448 (t449.take (t457 : Int).toNat)).bind fun bt471 => (laws_FnBayRun.l0 kj32 t449 t457 bt471.2.2.2.2 (([] : List Int)) (wrap64 (t457 - 1)) t445 t446 t447 t448 t453 t454 t455 t456 bt471.1 bt471.2.1 bt471.2.2.1 bt471.2.2.2.1)) else (none)) else (none)) = some r := by rw [if_neg (show ¬ (false = true) by decide)] at H; exact H
        clear H
        have H := H1
        clear H1
        by_cases c51 : 0 ≤ t457
        ·rw [if_pos c51] at H
         have c51b0 := eq_true c51
         have c51b1 : decide (0 ≤ t457) = true := decide_eq_true c51
         clear c51
         by_cases c52 : t457 ≤ (t449.length : Int)
         ·rw [if_pos c52] at H
          have c52b0 := eq_true c52
          have c52b1 : decide (t457 ≤ (t449.length : Int)) = true := decide_eq_true c52
          clear c52
          obtain ⟨y467, hy467⟩ : ∃ y_ : List Int, y_ = (t449.take (t457 : Int).toNat) := ⟨_, rfl⟩
          replace H : ((impl_BayRun.f kj32 t445 t446 t447 t448 y467).bind fun bt471 => (laws_FnBayRun.l0 kj32 t449 t457 bt471.2.2.2.2 (([] : List Int)) (wrap64 (t457 - 1)) t445 t446 t447 t448 t453 t454 t455 t456 bt471.1 bt471.2.1 bt471.2.2.1 bt471.2.2.2.1)) = some r := by first | (rw [hy467]; with_reducible exact H) | (have H2_ := (Option.bind_some _ _).symm.trans H; rw [hy467]; with_reducible exact H2_) | (have H2_ := (Option.bind_some _ _).symm.trans H; with_reducible exact H2_) | with_reducible exact H | (rw [hy467]; exact H) | exact H
          have Ny467 := Aside0.mk hy467
          clear hy467
          replace H := Option.bind_eq_some_iff.mp H
          obtain ⟨⟨t471, t472, t473, t474, t475⟩, A530, H⟩ := H
          replace H : (laws_FnBayRun.l0 kj32 t449 t457 t475 (([] : List Int)) (wrap64 (t457 - 1)) t445 t446 t447 t448 t453 t454 t455 t456 t471 t472 t473 t474) = some r := H
          have A53 := Aside0.mk A530
          clear A530
          obtain ⟨y477, hy477⟩ : ∃ y_ : List Int, y_ = (([] : List Int)) := ⟨_, rfl⟩
          replace H : (laws_FnBayRun.l0 kj32 t449 t457 t475 y477 (wrap64 (t457 - 1)) t445 t446 t447 t448 t453 t454 t455 t456 t471 t472 t473 t474) = some r := by first | (rw [hy477]; with_reducible exact H) | (have H2_ := (Option.bind_some _ _).symm.trans H; rw [hy477]; with_reducible exact H2_) | (have H2_ := (Option.bind_some _ _).symm.trans H; with_reducible exact H2_) | with_reducible exact H | (rw [hy477]; exact H) | exact H
          have Ny477 := Aside0.mk hy477
          clear hy477
          have H' := Aside0.mk H
          clear H
          try go_wp2
          have n0_ := Aside0.mk (Kd.R_drew HO_4.out)
          have n1_ := Aside0.mk (blk_drew BK452.out)
          have n2_ := Aside0.mk (blk_drew BK458.out)
          have n3_ := Aside0.mk (blk_drew BK464.out)
          have n4_ := Aside0.mk (below_drew1 HB.out)
          clear HO_4
          clear BK452
          clear BK458
          clear BK464
          clear HB
          have HO_4 := n0_
          have BK452 := n1_
          have BK458 := n2_
          have BK464 := n3_
          have HB := n4_
          clear n0_ n1_ n2_ n3_ n4_
          have q55 : (t457 : Int) ≤ ((t449.length : Int) : Int) := of_decide_eq_true (by first | (with_reducible assumption) | assumption)
          obtain ⟨i055, hi055, _, hsz55, _⟩ := info_parts info3
          have hroom55 : t449.length ≤ co10 := (Kd.R_reads' HO_4.out).2.1
          have hC55 : Kd.C (Kd.int .i64) _ Ao10 t449.length t449 := (Kd.R_reads' HO_4.out).2.2
          have hcut55 := cut_to (P := Tryd.prog) 30 3 .i64 Tryd.underlying30 hi055 Ao10 t449.length co10 t457 (of_decide_eq_true (by first | (with_reducible assumption) | assumption)) q55 hroom55
          have hr55 := Kd.C_take (m := (t457 : Int).toNat) hC55 (by omega)
          have hy55 : y467.length = (t457 : Int).toNat := (by rw [Ny467.out, List.length_take]; omega)
          rw [← Ny467.out] at hr55
          rw [← hy55] at hcut55
          have HR470 := Aside0.mk hr55
          have HC470 := Aside0.mk (show y467.length ≤ co10 from by omega)
          clear hr55 hC55 hroom55 hi055 hsz55
          have KY55 := Aside0.mk hy55
          clear hy55
          have KL55 := Aside0.mk (show (t457 : Int).toNat ≤ t449.length from by omega)
          replace q55 := eq_true q55
          refine start_ (n := 11) (S := fun w' => w'.cell? ⟨gb452, 0, none⟩ = some (.bool t445) ∧ w'.cell? ⟨gb452, 1, none⟩ = some (.bool t446) ∧ w'.cell? ⟨gb452, 2, none⟩ = some (.bool t447) ∧ w'.cell? ⟨gb452, 3, none⟩ = some (.bool t448)) (ds := []) (bz 11 0) (by kernel_rfl) rfl rfl ⟨(blk_cell BK452.out 0).trans rfl, (blk_cell BK452.out 1).trans rfl, (blk_cell BK452.out 2).trans rfl, (blk_cell BK452.out 3).trans rfl⟩ (fun hHeld => ?_); refine with_tabW laws_FnBayRun.tab10 laws_FnBayRun.bits10 (fun HT_ HW_ => ?_)
          generalize wc.drew = w54 at HO_4 BK452 BK458 BK464 HB HR470 hHeld ⊢
          refine pure_ (i := 1) (N := some 62) (v := ?_) (a' := ?_) (bz 11 2) rfl rfl (any_of HT_.out (by kernel_rfl)) (fun _ _ _ h => h) (Or.inl ⟨by rfl, ?_⟩) ?_ ?_
          rotate_left
          ·intro w'
           go_simp
           with_reducible rfl
          rotate_left
          ·simp only [Act.put, List.setIfInBounds_toArray, List.set_cons_zero, List.set_cons_succ, i64_w, i32_w]
           rfl
          refine pure_ (i := 2) (N := some 63) (v := ?_) (a' := ?_) (bz 11 6) rfl rfl (any_of HT_.out (by kernel_rfl)) (fun _ _ _ h => h) (Or.inl ⟨by rfl, ?_⟩) ?_ ?_
          rotate_left
          ·intro w'
           go_simp
           with_reducible rfl
          rotate_left
          ·simp only [Act.put, List.setIfInBounds_toArray, List.set_cons_zero, List.set_cons_succ, i64_w, i32_w]
           rfl
          refine pure_ (i := 3) (N := some 64) (v := ?_) (a' := ?_) (bz 11 14) rfl rfl (any_of HT_.out (by kernel_rfl)) (fun _ _ _ h => h) (Or.inl ⟨by rfl, ?_⟩) ?_ ?_
          rotate_left
          ·intro w'
           go_simp
           with_reducible rfl
          rotate_left
          ·simp only [Act.put, List.setIfInBounds_toArray, List.set_cons_zero, List.set_cons_succ, i64_w, i32_w]
           rfl
          refine take_ (i := 0) (N := some 61) (v := ?_) (a' := ?_) (bz 11 15) rfl rfl (take_ofW HT_.out HW_.out (by kernel_rfl)) (fun _ _ _ h => h) (Or.inl ⟨by rfl, ?_⟩) hHeld ?_ ?_
          rotate_left
          ·rintro w' ⟨s0, s1, s2, s3⟩
           go_simp
           with_reducible rfl
          rotate_left
          ·simp only [Act.put, List.setIfInBounds_toArray, List.set_cons_zero, List.set_cons_succ, i64_w, i32_w]
           rfl
          refine join_ (σ := Nat) 2 (bz 11 511) (fun s_ => [(65, .tuple #[.agg #[.bool t471, .bool t472, .bool t473, .bool t474], .int .i64 t475]), (9, .pointer (some ⟨s_, 0, none⟩)), (60, .tuple #[.agg #[.bool t471, .bool t472, .bool t473, .bool t474], .int .i64 t475]), (66, .agg #[.bool t471, .bool t472, .bool t473, .bool t474]), (67, .int .i64 t475)]) (fun s_ w' => (w'.cell? ⟨gb452, 0, none⟩ = some (.bool t445) ∧ w'.cell? ⟨gb452, 1, none⟩ = some (.bool t446) ∧ w'.cell? ⟨gb452, 2, none⟩ = some (.bool t447) ∧ w'.cell? ⟨gb452, 3, none⟩ = some (.bool t448)) ∧ (Kd.R (Kd.int .i64) 3 w' w.heap.size (fun _ => True) (.slice Ao10 t449.length co10) t449) ∧ (w'.heap[gb452]? = some (.cells #[.bool t445, .bool t446, .bool t447, .bool t448] 59 (0, 0))) ∧ (w'.heap[gb458]? = some (.cells #[.bool t453, .bool t454, .bool t455, .bool t456] 59 (0, 0))) ∧ (w'.heap[gb464]? = some (.cells #[.bool t459, .bool t460, .bool t461, .bool t462] 59 (0, 0))) ∧ (w'.heap[s_]? = some (.cells #[.bool false, .bool false, .bool false, .bool false] 59 (0, 0))) ∧ (w.heap.size ≤ s_) ∧ (w.heap.size ≤ s_) ∧ (gb452 ≠ s_) ∧ (s_ ≠ gb452) ∧ (gb458 ≠ s_) ∧ (s_ ≠ gb458) ∧ (gb464 ≠ s_) ∧ (s_ ≠ gb464) ∧ (Below w.heap.size w w')) ?_ ?_
          rotate_left
          ·intro hCont
           refine two_ (i := 4) (j := 8) (Ni := some 65) (Nj := some 9) (bz 11 31) (bz 11 271) rfl rfl rfl rfl (two_of HT_.out (by kernel_rfl)) (by decide) (by decide) (fun K hK => ?_) (fun K hK => ?_)
           ·skip
            refine goes_ Tryd.func65 (by kernel_rfl) rfl #[.agg #[.bool t445, .bool t446, .bool t447, .bool t448], .slice Ao10 y467.length co10] (by rfl) rfl rfl (by (try simp only [List.map_toArray, List.map_cons, List.map_nil]); first | done | rfl | (simp only [List.length_drop, List.length_take]; rfl)) ?_
            with_reducible refine (impl_BayRun.calls kj32 t445 t446 t447 t448 _ _ y467 t471 t472 t473 t474 t475 _ ?side1 ?side2 A53.out).mono ?_
            (case side1 => repeat (first | exact (by repeat (first | (with_reducible exact HR470.out) | (with_reducible refine Kd.C_alloc ?_ _) | (with_reducible refine Kd.C_drewN ?_ _) | (with_reducible refine Kd.C_drew ?_) | exact HR470.out)) | (with_reducible refine Kd.C_alloc ?_ _) | (with_reducible refine Kd.C_drewN ?_ _) | (with_reducible refine Kd.C_drew ?_)))
            (case side2 => exact HC470.out)
            rintro e w56 ⟨rfl, hb⟩
            refine ⟨_, rfl, ?_⟩
            have n0_ := rB HO_4 hb
            have n1_ := bkB BK452 hb
            have n2_ := bkB BK458 hb
            have n3_ := bkB BK464 hb
            have n4_ := Aside0.mk (Kd.C_below (by repeat (first | (with_reducible exact HR470.out) | (with_reducible refine Kd.C_alloc ?_ _) | (with_reducible refine Kd.C_drewN ?_ _) | (with_reducible refine Kd.C_drew ?_) | exact HR470.out)) hb)
            have n5_ := Aside0.mk (below_step bw hb)
            clear HO_4
            clear BK452
            clear BK458
            clear BK464
            clear HR470
            clear HB
            have HO_4 := n0_
            have BK452 := n1_
            have BK458 := n2_
            have BK464 := n3_
            have HR470 := n4_
            have HB := n5_
            clear n0_ n1_ n2_ n3_ n4_ n5_
            (try clear hb)
            (try clear hb2)
            (try clear hk)
            (try clear hi)
            refine hK.out _ _ ⟨(blk_cell BK452.out 0).trans rfl, (blk_cell BK452.out 1).trans rfl, (blk_cell BK452.out 2).trans rfl, (blk_cell BK452.out 3).trans rfl⟩ (fun hHeld => ?_)
            clear hK K
            refine norm_ (a' := ?_) ?_ ?_
            rotate_left
            ·show Act.put _ (some 65) _ = _
             simp only [Act.put, List.setIfInBounds_toArray, List.set_cons_zero, List.set_cons_succ, i64_w, i32_w]
             rfl
            refine pure_ (i := 5) (N := some 60) (v := ?_) (a' := ?_) (bz 11 63) rfl rfl (any_of HT_.out (by kernel_rfl)) (fun _ _ _ h => h) (Or.inl ⟨by rfl, ?_⟩) ?_ ?_
            rotate_left
            ·intro w'
             go_simp
             with_reducible rfl
            rotate_left
            ·simp only [Act.put, List.setIfInBounds_toArray, List.set_cons_zero, List.set_cons_succ, i64_w, i32_w]
             rfl
            refine pure_ (i := 6) (N := some 66) (v := ?_) (a' := ?_) (bz 11 127) rfl rfl (any_of HT_.out (by kernel_rfl)) (fun _ _ _ h => h) (Or.inl ⟨by rfl, ?_⟩) ?_ ?_
            rotate_left
            ·intro w'
             go_simp
             with_reducible rfl
            rotate_left
            ·simp only [Act.put, List.setIfInBounds_toArray, List.set_cons_zero, List.set_cons_succ, i64_w, i32_w]
             rfl
            refine pure_ (i := 7) (N := some 67) (v := ?_) (a' := ?_) (bz 11 255) rfl rfl (any_of HT_.out (by kernel_rfl)) (fun _ _ _ h => h) (Or.inl ⟨by rfl, ?_⟩) ?_ ?_
            rotate_left
            ·intro w'
             go_simp
             with_reducible rfl
            rotate_left
            ·simp only [Act.put, List.setIfInBounds_toArray, List.set_cons_zero, List.set_cons_succ, i64_w, i32_w]
             rfl
            refine one_ (i := 8) (N := some 9) (bz 11 511) rfl rfl (one_of HT_.out (by kernel_rfl)) (by decide) (fun K hK => ?_)
            refine box_step ?hg (N := 9) ?hd (cs := #[.bool false, .bool false, .bool false, .bool false]) (t := 59) ?hr ?_; (case hd => rfl); (case hg => rfl); (case hr => first | (go_simp; done) | (go_simp; rfl))
            intro gb476 hg w57 hbox hb
            have n0_ := rB HO_4 hb
            have n1_ := bkB BK452 hb
            have n2_ := bkB BK458 hb
            have n3_ := bkB BK464 hb
            have n4_ := Aside0.mk (Kd.C_below (by repeat (first | (with_reducible exact HR470.out) | (with_reducible refine Kd.C_alloc ?_ _) | (with_reducible refine Kd.C_drewN ?_ _) | (with_reducible refine Kd.C_drew ?_) | exact HR470.out)) hb)
            have n5_ := Aside0.mk (below_step bw hb)
            have n6_ := Aside0.mk (hbox)
            have n7_ := Aside0.mk ((by rw [hg]; exact (below_size bw) : w.heap.size ≤ gb476))
            have n8_ := Aside0.mk ((by rw [hg]; exact (below_size bw) : w.heap.size ≤ gb476))
            have n9_ := Aside0.mk ((by rw [hg]; exact Nat.ne_of_lt (blk_lt (g := gb452) (o := .cells #[.bool t445, .bool t446, .bool t447, .bool t448] 59 (0, 0)) (bk BK452)) : gb452 ≠ gb476))
            have n10_ := Aside0.mk ((by rw [hg]; exact Nat.ne_of_gt (blk_lt (g := gb452) (o := .cells #[.bool t445, .bool t446, .bool t447, .bool t448] 59 (0, 0)) (bk BK452)) : gb476 ≠ gb452))
            have n11_ := Aside0.mk ((by rw [hg]; exact Nat.ne_of_lt (blk_lt (g := gb458) (o := .cells #[.bool t453, .bool t454, .bool t455, .bool t456] 59 (0, 0)) (bk BK458)) : gb458 ≠ gb476))
            have n12_ := Aside0.mk ((by rw [hg]; exact Nat.ne_of_gt (blk_lt (g := gb458) (o := .cells #[.bool t453, .bool t454, .bool t455, .bool t456] 59 (0, 0)) (bk BK458)) : gb476 ≠ gb458))
            have n13_ := Aside0.mk ((by rw [hg]; exact Nat.ne_of_lt (blk_lt (g := gb464) (o := .cells #[.bool t459, .bool t460, .bool t461, .bool t462] 59 (0, 0)) (bk BK464)) : gb464 ≠ gb476))
            have n14_ := Aside0.mk ((by rw [hg]; exact Nat.ne_of_gt (blk_lt (g := gb464) (o := .cells #[.bool t459, .bool t460, .bool t461, .bool t462] 59 (0, 0)) (bk BK464)) : gb476 ≠ gb464))
            clear HO_4
            clear BK452
            clear BK458
            clear BK464
            clear HR470
            clear HB
            have HO_4 := n0_
            have BK452 := n1_
            have BK458 := n2_
            have BK464 := n3_
            have HR470 := n4_
            have HB := n5_
            have BK476 := n6_
            have GW476 := n7_
            have GE476 := n8_
            have NB452_476 := n9_
            have NB476_452 := n10_
            have NB458_476 := n11_
            have NB476_458 := n12_
            have NB464_476 := n13_
            have NB476_464 := n14_
            clear n0_ n1_ n2_ n3_ n4_ n5_ n6_ n7_ n8_ n9_ n10_ n11_ n12_ n13_ n14_
            clear hb hbox hg
            refine hK.out _ _ ⟨(blk_cell BK452.out 0).trans rfl, (blk_cell BK452.out 1).trans rfl, (blk_cell BK452.out 2).trans rfl, (blk_cell BK452.out 3).trans rfl⟩ (fun hHeld => ?_)
            clear hK K
            refine norm_ (a' := ?_) ?_ ?_
            rotate_left
            ·show Act.put _ (some 9) _ = _
             simp only [Act.put, List.setIfInBounds_toArray, List.set_cons_zero, List.set_cons_succ, i64_w, i32_w]
             rfl
            exact norm_ (by simp only [putAll, Act.put, List.setIfInBounds_toArray, List.set_cons_zero, List.set_cons_succ]) (hCont (gb476) _ ⟨hHeld, (rk HO_4), (bk BK452), (bk BK458), (bk BK464), (bk BK476), GW476.out, GE476.out, NB452_476.out, NB476_452.out, NB458_476.out, NB476_458.out, NB464_476.out, NB476_464.out, bw⟩)
           ·skip
            refine box_step ?hg (N := 9) ?hd (cs := #[.bool false, .bool false, .bool false, .bool false]) (t := 59) ?hr ?_; (case hd => rfl); (case hg => rfl); (case hr => first | (go_simp; done) | (go_simp; rfl))
            intro gb476 hg w56 hbox hb
            have n0_ := rB HO_4 hb
            have n1_ := bkB BK452 hb
            have n2_ := bkB BK458 hb
            have n3_ := bkB BK464 hb
            have n4_ := Aside0.mk (Kd.C_below (by repeat (first | (with_reducible exact HR470.out) | (with_reducible refine Kd.C_alloc ?_ _) | (with_reducible refine Kd.C_drewN ?_ _) | (with_reducible refine Kd.C_drew ?_) | exact HR470.out)) hb)
            have n5_ := Aside0.mk (below_step bw hb)
            have n6_ := Aside0.mk (hbox)
            have n7_ := Aside0.mk ((by rw [hg]; exact (below_size bw) : w.heap.size ≤ gb476))
            have n8_ := Aside0.mk ((by rw [hg]; exact (below_size bw) : w.heap.size ≤ gb476))
            have n9_ := Aside0.mk ((by rw [hg]; exact Nat.ne_of_lt (blk_lt (g := gb452) (o := .cells #[.bool t445, .bool t446, .bool t447, .bool t448] 59 (0, 0)) (bk BK452)) : gb452 ≠ gb476))
            have n10_ := Aside0.mk ((by rw [hg]; exact Nat.ne_of_gt (blk_lt (g := gb452) (o := .cells #[.bool t445, .bool t446, .bool t447, .bool t448] 59 (0, 0)) (bk BK452)) : gb476 ≠ gb452))
            have n11_ := Aside0.mk ((by rw [hg]; exact Nat.ne_of_lt (blk_lt (g := gb458) (o := .cells #[.bool t453, .bool t454, .bool t455, .bool t456] 59 (0, 0)) (bk BK458)) : gb458 ≠ gb476))
            have n12_ := Aside0.mk ((by rw [hg]; exact Nat.ne_of_gt (blk_lt (g := gb458) (o := .cells #[.bool t453, .bool t454, .bool t455, .bool t456] 59 (0, 0)) (bk BK458)) : gb476 ≠ gb458))
            have n13_ := Aside0.mk ((by rw [hg]; exact Nat.ne_of_lt (blk_lt (g := gb464) (o := .cells #[.bool t459, .bool t460, .bool t461, .bool t462] 59 (0, 0)) (bk BK464)) : gb464 ≠ gb476))
            have n14_ := Aside0.mk ((by rw [hg]; exact Nat.ne_of_gt (blk_lt (g := gb464) (o := .cells #[.bool t459, .bool t460, .bool t461, .bool t462] 59 (0, 0)) (bk BK464)) : gb476 ≠ gb464))
            clear HO_4
            clear BK452
            clear BK458
            clear BK464
            clear HR470
            clear HB
            have HO_4 := n0_
            have BK452 := n1_
            have BK458 := n2_
            have BK464 := n3_
            have HR470 := n4_
            have HB := n5_
            have BK476 := n6_
            have GW476 := n7_
            have GE476 := n8_
            have NB452_476 := n9_
            have NB476_452 := n10_
            have NB458_476 := n11_
            have NB476_458 := n12_
            have NB464_476 := n13_
            have NB476_464 := n14_
            clear n0_ n1_ n2_ n3_ n4_ n5_ n6_ n7_ n8_ n9_ n10_ n11_ n12_ n13_ n14_
            clear hb hbox hg
            refine hK.out _ _ ⟨(blk_cell BK452.out 0).trans rfl, (blk_cell BK452.out 1).trans rfl, (blk_cell BK452.out 2).trans rfl, (blk_cell BK452.out 3).trans rfl⟩ (fun hHeld => ?_)
            clear hK K
            refine norm_ (a' := ?_) ?_ ?_
            rotate_left
            ·show Act.put _ (some 9) _ = _
             simp only [Act.put, List.setIfInBounds_toArray, List.set_cons_zero, List.set_cons_succ, i64_w, i32_w]
             rfl
            refine one_ (i := 4) (N := some 65) (bz 11 287) rfl rfl (one_of HT_.out (by kernel_rfl)) (by decide) (fun K hK => ?_)
            refine goes_ Tryd.func65 (by kernel_rfl) rfl #[.agg #[.bool t445, .bool t446, .bool t447, .bool t448], .slice Ao10 y467.length co10] (by rfl) rfl rfl (by (try simp only [List.map_toArray, List.map_cons, List.map_nil]); first | done | rfl | (simp only [List.length_drop, List.length_take]; rfl)) ?_
            with_reducible refine (impl_BayRun.calls kj32 t445 t446 t447 t448 _ _ y467 t471 t472 t473 t474 t475 _ ?side1 ?side2 A53.out).mono ?_
            (case side1 => repeat (first | exact (by repeat (first | (with_reducible exact HR470.out) | (with_reducible refine Kd.C_alloc ?_ _) | (with_reducible refine Kd.C_drewN ?_ _) | (with_reducible refine Kd.C_drew ?_) | exact HR470.out)) | (with_reducible refine Kd.C_alloc ?_ _) | (with_reducible refine Kd.C_drewN ?_ _) | (with_reducible refine Kd.C_drew ?_)))
            (case side2 => exact HC470.out)
            rintro e w57 ⟨rfl, hb⟩
            refine ⟨_, rfl, ?_⟩
            have n0_ := rB HO_4 hb
            have n1_ := bkB BK452 hb
            have n2_ := bkB BK458 hb
            have n3_ := bkB BK464 hb
            have n4_ := Aside0.mk (Kd.C_below (by repeat (first | (with_reducible exact HR470.out) | (with_reducible refine Kd.C_alloc ?_ _) | (with_reducible refine Kd.C_drewN ?_ _) | (with_reducible refine Kd.C_drew ?_) | exact HR470.out)) hb)
            have n5_ := bkB BK476 hb
            have n6_ := Aside0.mk (below_step bw hb)
            clear HO_4
            clear BK452
            clear BK458
            clear BK464
            clear HR470
            clear BK476
            clear HB
            have HO_4 := n0_
            have BK452 := n1_
            have BK458 := n2_
            have BK464 := n3_
            have HR470 := n4_
            have BK476 := n5_
            have HB := n6_
            clear n0_ n1_ n2_ n3_ n4_ n5_ n6_
            (try clear hb)
            (try clear hb2)
            (try clear hk)
            (try clear hi)
            refine hK.out _ _ ⟨(blk_cell BK452.out 0).trans rfl, (blk_cell BK452.out 1).trans rfl, (blk_cell BK452.out 2).trans rfl, (blk_cell BK452.out 3).trans rfl⟩ (fun hHeld => ?_)
            clear hK K
            refine norm_ (a' := ?_) ?_ ?_
            rotate_left
            ·show Act.put _ (some 65) _ = _
             simp only [Act.put, List.setIfInBounds_toArray, List.set_cons_zero, List.set_cons_succ, i64_w, i32_w]
             rfl
            refine pure_ (i := 5) (N := some 60) (v := ?_) (a' := ?_) (bz 11 319) rfl rfl (any_of HT_.out (by kernel_rfl)) (fun _ _ _ h => h) (Or.inl ⟨by rfl, ?_⟩) ?_ ?_
            rotate_left
            ·intro w'
             go_simp
             with_reducible rfl
            rotate_left
            ·simp only [Act.put, List.setIfInBounds_toArray, List.set_cons_zero, List.set_cons_succ, i64_w, i32_w]
             rfl
            refine pure_ (i := 6) (N := some 66) (v := ?_) (a' := ?_) (bz 11 383) rfl rfl (any_of HT_.out (by kernel_rfl)) (fun _ _ _ h => h) (Or.inl ⟨by rfl, ?_⟩) ?_ ?_
            rotate_left
            ·intro w'
             go_simp
             with_reducible rfl
            rotate_left
            ·simp only [Act.put, List.setIfInBounds_toArray, List.set_cons_zero, List.set_cons_succ, i64_w, i32_w]
             rfl
            refine pure_ (i := 7) (N := some 67) (v := ?_) (a' := ?_) (bz 11 511) rfl rfl (any_of HT_.out (by kernel_rfl)) (fun _ _ _ h => h) (Or.inl ⟨by rfl, ?_⟩) ?_ ?_
            rotate_left
            ·intro w'
             go_simp
             with_reducible rfl
            rotate_left
            ·simp only [Act.put, List.setIfInBounds_toArray, List.set_cons_zero, List.set_cons_succ, i64_w, i32_w]
             rfl
            exact norm_ (by simp only [putAll, Act.put, List.setIfInBounds_toArray, List.set_cons_zero, List.set_cons_succ]) (hCont (gb476) _ ⟨hHeld, (rk HO_4), (bk BK452), (bk BK458), (bk BK464), (bk BK476), GW476.out, GE476.out, NB452_476.out, NB476_452.out, NB458_476.out, NB476_458.out, NB464_476.out, NB476_464.out, bw⟩)
          rintro gb476 w58 ⟨hS_, h0_, h1_, h2_, h3_, h4_, h5_, h6_, h7_, h8_, h9_, h10_, h11_, h12_, h13_⟩
          have n0_ : Aside0 (Kd.R (Kd.int .i64) 3 w58 w.heap.size (fun _ => True) (.slice Ao10 t449.length co10) t449) := ⟨h0_⟩
          have n1_ : Aside0 (w58.heap[gb452]? = some (.cells #[.bool t445, .bool t446, .bool t447, .bool t448] 59 (0, 0))) := ⟨h1_⟩
          have n2_ : Aside0 (w58.heap[gb458]? = some (.cells #[.bool t453, .bool t454, .bool t455, .bool t456] 59 (0, 0))) := ⟨h2_⟩
          have n3_ : Aside0 (w58.heap[gb464]? = some (.cells #[.bool t459, .bool t460, .bool t461, .bool t462] 59 (0, 0))) := ⟨h3_⟩
          have n4_ : Aside0 (w58.heap[gb476]? = some (.cells #[.bool false, .bool false, .bool false, .bool false] 59 (0, 0))) := ⟨h4_⟩
          have n5_ : Aside0 (w.heap.size ≤ gb476) := ⟨h5_⟩
          have n6_ : Aside0 (w.heap.size ≤ gb476) := ⟨h6_⟩
          have n7_ : Aside0 (gb452 ≠ gb476) := ⟨h7_⟩
          have n8_ : Aside0 (gb476 ≠ gb452) := ⟨h8_⟩
          have n9_ : Aside0 (gb458 ≠ gb476) := ⟨h9_⟩
          have n10_ : Aside0 (gb476 ≠ gb458) := ⟨h10_⟩
          have n11_ : Aside0 (gb464 ≠ gb476) := ⟨h11_⟩
          have n12_ : Aside0 (gb476 ≠ gb464) := ⟨h12_⟩
          have n13_ : Aside0 (Below w.heap.size w w58) := ⟨h13_⟩
          clear HO_4
          clear BK452
          clear BK458
          clear BK464
          clear HB
          clear h0_ h1_ h2_ h3_ h4_ h5_ h6_ h7_ h8_ h9_ h10_ h11_ h12_ h13_
          have HO_4 := n0_
          have BK452 := n1_
          have BK458 := n2_
          have BK464 := n3_
          have BK476 := n4_
          have GW476 := n5_
          have GE476 := n6_
          have NB452_476 := n7_
          have NB476_452 := n8_
          have NB458_476 := n9_
          have NB476_458 := n10_
          have NB464_476 := n11_
          have NB476_464 := n12_
          have HB := n13_
          clear n0_ n1_ n2_ n3_ n4_ n5_ n6_ n7_ n8_ n9_ n10_ n11_ n12_ n13_
          have hHeld : w58.cell? ⟨gb452, 0, none⟩ = some (.bool t445) ∧ w58.cell? ⟨gb452, 1, none⟩ = some (.bool t446) ∧ w58.cell? ⟨gb452, 2, none⟩ = some (.bool t447) ∧ w58.cell? ⟨gb452, 3, none⟩ = some (.bool t448) := hS_
          refine norm_ (a' := ?_) ?_ ?_
          rotate_left
          ·simp only [putAll, Act.put, List.setIfInBounds_toArray, List.set_cons_zero, List.set_cons_succ]
           rfl
          refine one_ (i := 9) (N := none) (bz 11 1023) rfl rfl (one_of HT_.out (by kernel_rfl)) (by decide) (fun K hK => ?_)
          have hs59 : w58.cell? ⟨gb476, 0, none⟩ = some (.bool false) := (blk_cell BK476.out 0).trans rfl
          have hfs59 := blk_frozen BK476.out 0
          have hns59_0 := NB452_476.out
          have hns59_1 := NB458_476.out
          have hns59_2 := NB464_476.out
          have hms59_0 := NB476_452.out
          have hms59_1 := NB476_458.out
          have hms59_2 := NB476_464.out
          have hs60 : w58.cell? ⟨gb476, 1, none⟩ = some (.bool false) := (blk_cell BK476.out 1).trans rfl
          have hfs60 := blk_frozen BK476.out 1
          have hns60_0 := NB452_476.out
          have hns60_1 := NB458_476.out
          have hns60_2 := NB464_476.out
          have hms60_0 := NB476_452.out
          have hms60_1 := NB476_458.out
          have hms60_2 := NB476_464.out
          have hs61 : w58.cell? ⟨gb476, 2, none⟩ = some (.bool false) := (blk_cell BK476.out 2).trans rfl
          have hfs61 := blk_frozen BK476.out 2
          have hns61_0 := NB452_476.out
          have hns61_1 := NB458_476.out
          have hns61_2 := NB464_476.out
          have hms61_0 := NB476_452.out
          have hms61_1 := NB476_458.out
          have hms61_2 := NB476_464.out
          have hs62 : w58.cell? ⟨gb476, 3, none⟩ = some (.bool false) := (blk_cell BK476.out 3).trans rfl
          have hfs62 := blk_frozen BK476.out 3
          have hns62_0 := NB452_476.out
          have hns62_1 := NB458_476.out
          have hns62_2 := NB464_476.out
          have hms62_0 := NB476_452.out
          have hms62_1 := NB476_458.out
          have hms62_2 := NB476_464.out
          refine skip_ (w1 := ?_) (by rfl) rfl ?_ ?_
          rotate_left
          ·go_simp
           rfl
          refine hK.out _ _ ⟨((cell_far (p := ⟨gb476, _, none⟩) NB452_476.out _).trans (((cell_far (p := ⟨gb476, _, none⟩) NB452_476.out _).trans (((cell_far (p := ⟨gb476, _, none⟩) NB452_476.out _).trans (((cell_far (p := ⟨gb476, _, none⟩) NB452_476.out _).trans (hHeld.1)))))))), ((cell_far (p := ⟨gb476, _, none⟩) NB452_476.out _).trans (((cell_far (p := ⟨gb476, _, none⟩) NB452_476.out _).trans (((cell_far (p := ⟨gb476, _, none⟩) NB452_476.out _).trans (((cell_far (p := ⟨gb476, _, none⟩) NB452_476.out _).trans (hHeld.2.1)))))))), ((cell_far (p := ⟨gb476, _, none⟩) NB452_476.out _).trans (((cell_far (p := ⟨gb476, _, none⟩) NB452_476.out _).trans (((cell_far (p := ⟨gb476, _, none⟩) NB452_476.out _).trans (((cell_far (p := ⟨gb476, _, none⟩) NB452_476.out _).trans (hHeld.2.2.1)))))))), ((cell_far (p := ⟨gb476, _, none⟩) NB452_476.out _).trans (((cell_far (p := ⟨gb476, _, none⟩) NB452_476.out _).trans (((cell_far (p := ⟨gb476, _, none⟩) NB452_476.out _).trans (((cell_far (p := ⟨gb476, _, none⟩) NB452_476.out _).trans (hHeld.2.2.2))))))))⟩ (fun hHeld => ?_)
          clear hK K
          refine pure_ (i := 10) (N := some 10) (v := ?_) (a' := ?_) (bz 11 2047) rfl rfl (any_of HT_.out (by kernel_rfl)) (fun _ _ _ h => h) (Or.inl ⟨by rfl, ?_⟩) ?_ ?_
          rotate_left
          ·intro w'
           go_simp
           with_reducible rfl
          rotate_left
          ·simp only [Act.put, List.setIfInBounds_toArray, List.set_cons_zero, List.set_cons_succ, i64_w, i32_w]
           rfl
          refine done_ (done_of HT_.out (by kernel_rfl)) ?_
          try go_wp2_with (first | ((with_reducible refine gate_dst (N := 68) rfl ?_); (try (refine gate_guard (by rfl) ?_; dsimp only)); refine Kd.R_lit (Kd.int .i64) _ 3 ?hg (N := 68) ?hd (xs := ([] : List Int)) (inner := []) (ok := fun _ => True) (okp := fun _ => True) ?hr ?hp (fun _ hk => by first | exact hk | grind) trivial (Below.refl _ _) (Nat.le_refl _) (by simp) ?_; (case hd => rfl); (case hg => rfl); (case hr => first | (go_simp; done) | (go_simp; rfl)); (case hp => exact (Reps.none _ _)); intro v478 w63 ho64 hb hg_ hnew_; clear hg_ hnew_; (first | rw [← Ny477.out] at ho64 | (simp only [Int.reduceToNat] at ho64; rw [← Ny477.out] at ho64)); have n0_ := Aside0.mk (Kd.R_elder' (by (with_reducible repeat (first | apply Kd.R_alloc | apply Kd.R_drewN | apply Kd.R_drew)); exact (Kd.R_mono (Kd.R_far (p := ⟨gb476, 3, none⟩) (Kd.R_far (p := ⟨gb476, 2, none⟩) (Kd.R_far (p := ⟨gb476, 1, none⟩) (Kd.R_far (p := ⟨gb476, 0, none⟩) (Kd.R_types HO_4.out BK476.out (by decide)) (fun _ hk => by first | exact hk.2 | grind) (.bool t471)) (fun _ hk => by first | exact hk.2 | grind) (.bool t472)) (fun _ hk => by first | exact hk.2 | grind) (.bool t473)) (fun _ hk => by first | exact hk.2 | grind) (.bool t474)) (fun _ h_ => h_.1))) (Kd.R_base ho64) hb); have n1_ := Aside0.mk (Kd.R_lower (Kd.R_new' ho64 (Kd.R_lt (by (with_reducible repeat (first | apply Kd.R_alloc | apply Kd.R_drewN | apply Kd.R_drew)); exact (Kd.R_mono (Kd.R_far (p := ⟨gb476, 3, none⟩) (Kd.R_far (p := ⟨gb476, 2, none⟩) (Kd.R_far (p := ⟨gb476, 1, none⟩) (Kd.R_far (p := ⟨gb476, 0, none⟩) (Kd.R_types HO_4.out BK476.out (by decide)) (fun _ hk => by first | exact hk.2 | grind) (.bool t471)) (fun _ hk => by first | exact hk.2 | grind) (.bool t472)) (fun _ hk => by first | exact hk.2 | grind) (.bool t473)) (fun _ hk => by first | exact hk.2 | grind) (.bool t474)) (fun _ h_ => h_.1))))) (below_size bw)); have n2_ := Aside0.mk (blk_below (g := gb452) (o := .cells #[.bool t445, .bool t446, .bool t447, .bool t448] 59 (0, 0)) (by (with_reducible repeat (first | refine blk_drewN ?_ _ | refine blk_drew ?_ | refine blk_alloc ?_ _)); refine blk_far ?_ NB452_476.out _; (with_reducible repeat (first | refine blk_drewN ?_ _ | refine blk_drew ?_ | refine blk_alloc ?_ _)); refine blk_far ?_ NB452_476.out _; (with_reducible repeat (first | refine blk_drewN ?_ _ | refine blk_drew ?_ | refine blk_alloc ?_ _)); refine blk_far ?_ NB452_476.out _; (with_reducible repeat (first | refine blk_drewN ?_ _ | refine blk_drew ?_ | refine blk_alloc ?_ _)); refine blk_far ?_ NB452_476.out _; (with_reducible repeat (first | refine blk_drewN ?_ _ | refine blk_drew ?_ | refine blk_alloc ?_ _)); exact BK452.out) hb); have n3_ := Aside0.mk (blk_below (g := gb458) (o := .cells #[.bool t453, .bool t454, .bool t455, .bool t456] 59 (0, 0)) (by (with_reducible repeat (first | refine blk_drewN ?_ _ | refine blk_drew ?_ | refine blk_alloc ?_ _)); refine blk_far ?_ NB458_476.out _; (with_reducible repeat (first | refine blk_drewN ?_ _ | refine blk_drew ?_ | refine blk_alloc ?_ _)); refine blk_far ?_ NB458_476.out _; (with_reducible repeat (first | refine blk_drewN ?_ _ | refine blk_drew ?_ | refine blk_alloc ?_ _)); refine blk_far ?_ NB458_476.out _; (with_reducible repeat (first | refine blk_drewN ?_ _ | refine blk_drew ?_ | refine blk_alloc ?_ _)); refine blk_far ?_ NB458_476.out _; (with_reducible repeat (first | refine blk_drewN ?_ _ | refine blk_drew ?_ | refine blk_alloc ?_ _)); exact BK458.out) hb); have n4_ := Aside0.mk (blk_below (g := gb464) (o := .cells #[.bool t459, .bool t460, .bool t461, .bool t462] 59 (0, 0)) (by (with_reducible repeat (first | refine blk_drewN ?_ _ | refine blk_drew ?_ | refine blk_alloc ?_ _)); refine blk_far ?_ NB464_476.out _; (with_reducible repeat (first | refine blk_drewN ?_ _ | refine blk_drew ?_ | refine blk_alloc ?_ _)); refine blk_far ?_ NB464_476.out _; (with_reducible repeat (first | refine blk_drewN ?_ _ | refine blk_drew ?_ | refine blk_alloc ?_ _)); refine blk_far ?_ NB464_476.out _; (with_reducible repeat (first | refine blk_drewN ?_ _ | refine blk_drew ?_ | refine blk_alloc ?_ _)); refine blk_far ?_ NB464_476.out _; (with_reducible repeat (first | refine blk_drewN ?_ _ | refine blk_drew ?_ | refine blk_alloc ?_ _)); exact BK464.out) hb); have n5_ := Aside0.mk (blk_below (g := gb476) (o := .cells #[.bool t471, .bool t472, .bool t473, .bool t474] 59 (0, 0)) (by (with_reducible repeat (first | refine blk_drewN ?_ _ | refine blk_drew ?_ | refine blk_alloc ?_ _)); refine blk_put (cs := #[.bool t471, .bool t472, .bool t473, .bool false]) ?_ 3 _ rfl; (with_reducible repeat (first | refine blk_drewN ?_ _ | refine blk_drew ?_ | refine blk_alloc ?_ _)); refine blk_put (cs := #[.bool t471, .bool t472, .bool false, .bool false]) ?_ 2 _ rfl; (with_reducible repeat (first | refine blk_drewN ?_ _ | refine blk_drew ?_ | refine blk_alloc ?_ _)); refine blk_put (cs := #[.bool t471, .bool false, .bool false, .bool false]) ?_ 1 _ rfl; (with_reducible repeat (first | refine blk_drewN ?_ _ | refine blk_drew ?_ | refine blk_alloc ?_ _)); refine blk_put (cs := #[.bool false, .bool false, .bool false, .bool false]) ?_ 0 _ rfl; (with_reducible repeat (first | refine blk_drewN ?_ _ | refine blk_drew ?_ | refine blk_alloc ?_ _)); exact BK476.out) hb); have n6_ := Aside0.mk (below_step bw hb); clear HO_4 BK452 BK458 BK464 BK476 HB; have HO_4 := n0_; have HO479 := n1_; have BK452 := n2_; have BK458 := n3_; have BK464 := n4_; have BK476 := n5_; have HB := n6_; clear n0_ n1_ n2_ n3_ n4_ n5_ n6_; clear hb ho64))
          go_loopg [11, 12] kj32 (fun kq v11 v12 w' => ∃ (x11_3 : List Int) (x12_3 : Int), v12 = .int .i64 x12_3 ∧ Aside0 (laws_FnBayRun.l0 kq t449 t457 t475 x11_3 x12_3 t445 t446 t447 t448 t453 t454 t455 t456 t471 t472 t473 t474 = some r) ∧ Aside0 (kq ≤ kj32) ∧ Aside0 (Kd.R (Kd.int .i64) 3 w' w.heap.size (fun k_ => some k_ ≠ (v11 : Value).ownBlock) (.slice Ao10 t449.length co10) t449) ∧ Aside0 (Kd.R (Kd.int .i64) 3 w' w.heap.size (fun k_ => some k_ ≠ ((.slice Ao10 t449.length co10) : Value).ownBlock) v11 x11_3) ∧ Aside0 (w'.heap[gb452]? = some (.cells #[.bool t445, .bool t446, .bool t447, .bool t448] 59 (0, 0))) ∧ Aside0 (w'.heap[gb458]? = some (.cells #[.bool t453, .bool t454, .bool t455, .bool t456] 59 (0, 0))) ∧ Aside0 (w'.heap[gb464]? = some (.cells #[.bool t459, .bool t460, .bool t461, .bool t462] 59 (0, 0))) ∧ Aside0 (w'.heap[gb476]? = some (.cells #[.bool t471, .bool t472, .bool t473, .bool t474] 59 (0, 0))) ∧ Aside0 (Below w.heap.size w w'))
          case atStart => exact ⟨(y477), (wrap64 (t457 - 1)), (by first | rfl | (simp; done) | (simp [*]; done)), H', ⟨Nat.le_refl _⟩, ⟨by (with_reducible repeat (first | apply Kd.R_alloc | apply Kd.R_drewN | apply Kd.R_drew)); exact Kd.R_mono HO_4.out (fun _ hk => by first | exact hk.2 | grind)⟩, ⟨by (with_reducible repeat (first | apply Kd.R_alloc | apply Kd.R_drewN | apply Kd.R_drew)); exact Kd.R_mono HO479.out (fun _ hk => by first | exact hk.2 | grind)⟩, ⟨bk BK452⟩, ⟨bk BK458⟩, ⟨bk BK464⟩, ⟨bk BK476⟩, ⟨bw⟩⟩
          case round =>
           clear H'
           try clear c1
           try clear c2
           try clear c2b0
           try clear c2b1
           try clear p2
           try clear c3
           try clear c4
           try clear c5
           try clear q5
           try clear c6
           try clear p6
           try clear c13
           try clear c14
           try clear c18
           try clear c19
           try clear c21
           try clear c21b0
           try clear c22
           try clear c23
           try clear c25
           try clear c27
           try clear c28
           try clear c30
           try clear c32
           try clear c34
           try clear c34b0
           try clear c35
           try clear c35b0
           try clear c37
           try clear c39
           try clear c40
           try clear c43
           try clear c46
           try clear c47
           try clear c50
           try clear c51
           try clear c51b0
           try clear c51b1
           try clear c52
           try clear c52b0
           try clear c52b1
           try clear q55
           try clear p64
           try clear hcz14_0
           try clear hcz14_1
           try clear hcz14_2
           try clear hcz14_3
           try clear hcz15_0
           try clear hcz15_1
           try clear hcz15_2
           try clear hcz15_3
           try clear hcz20_0
           try clear hcz20_1
           try clear hcz20_2
           try clear hcz20_3
           try clear hcz24_0
           try clear hcz24_1
           try clear hcz24_2
           try clear hcz24_3
           try clear hcz26_0
           try clear hcz26_1
           try clear hcz26_2
           try clear hcz26_3
           try clear hcz29_0
           try clear hcz29_1
           try clear hcz29_2
           try clear hcz29_3
           try clear hcz31_0
           try clear hcz31_1
           try clear hcz31_2
           try clear hcz31_3
           try clear hcz41_0
           try clear hcz41_1
           try clear hcz41_2
           try clear hcz41_3
           try clear hcz44_0
           try clear hcz44_1
           try clear hcz44_2
           try clear hcz44_3
           try clear hcz48_0
           try clear hcz48_1
           try clear hcz48_2
           try clear hcz48_3
           try clear hcz9_0
           try clear hcz9_1
           try clear hcz9_2
           try clear hcz9_3
           try clear hfz14_0
           try clear hfz14_1
           try clear hfz14_2
           try clear hfz14_3
           try clear hfz15_0
           try clear hfz15_1
           try clear hfz15_2
           try clear hfz15_3
           try clear hfz20_0
           try clear hfz20_1
           try clear hfz20_2
           try clear hfz20_3
           try clear hfz24_0
           try clear hfz24_1
           try clear hfz24_2
           try clear hfz24_3
           try clear hfz26_0
           try clear hfz26_1
           try clear hfz26_2
           try clear hfz26_3
           try clear hfz29_0
           try clear hfz29_1
           try clear hfz29_2
           try clear hfz29_3
           try clear hfz31_0
           try clear hfz31_1
           try clear hfz31_2
           try clear hfz31_3
           try clear hfz41_0
           try clear hfz41_1
           try clear hfz41_2
           try clear hfz41_3
           try clear hfz44_0
           try clear hfz44_1
           try clear hfz44_2
           try clear hfz44_3
           try clear hfz48_0
           try clear hfz48_1
           try clear hfz48_2
           try clear hfz48_3
           try clear hfz9_0
           try clear hfz9_1
           try clear hfz9_2
           try clear hfz9_3
           try clear p2
           try clear q55
           obtain ⟨x11_3, x12_3, rfl, HA, HK3, HO_4, HO_11, BK452, BK458, BK464, BK476, HB⟩ := hrel
           cases gk with
           | zero => exact absurd HA.out (by simp [laws_FnBayRun.l0])
           | succ k3 =>
            have H := HA.out
            clear HA
            simp only [laws_FnBayRun.l0] at H
            by_cases c65 : x12_3 ≥ 0
            ·rw [if_pos c65] at H
             have c65b0 : decide (0 ≤ x12_3) = true := decide_eq_true c65
             clear c65
             by_cases c66 : 0 ≤ x12_3
             ·rw [if_pos c66] at H
              have c66b0 : decide (0 ≤ x12_3) = true := decide_eq_true c66
              clear c66
              by_cases c67 : x12_3 < (t449.length : Int)
              ·rw [if_pos c67] at H
               have c67b0 : decide (x12_3 < (t449.length : Int)) = true := decide_eq_true c67
               clear c67
               by_cases c68 : x11_3.length < 17592186044416
               ·rw [if_pos c68] at H
                have LMc68 := Aside0.mk c68
                clear c68
                obtain ⟨y482, hy482⟩ : ∃ y_ : List Int, y_ = (x11_3 ++ [wrap64 ((wrap64 ((rd t449 x12_3) + 1)) - (wrap64 (2 * (Int.tmod (rd t449 x12_3) 2))))]) := ⟨_, rfl⟩
                replace H : (laws_FnBayRun.l0 k3 t449 t457 t475 y482 (wrap64 (x12_3 - 1)) t445 t446 t447 t448 t453 t454 t455 t456 t471 t472 t473 t474) = some r := by first | (rw [hy482]; with_reducible exact H) | (have H2_ := (Option.bind_some _ _).symm.trans H; rw [hy482]; with_reducible exact H2_) | (have H2_ := (Option.bind_some _ _).symm.trans H; with_reducible exact H2_) | with_reducible exact H | (rw [hy482]; exact H) | exact H
                have Ny482 := Aside0.mk hy482
                clear hy482
                have H' := Aside0.mk H
                clear H
                try go_wp2
                have n0_ := Aside0.mk (Kd.R_drew HO_4.out)
                have n1_ := Aside0.mk (Kd.R_drew HO_11.out)
                have n2_ := Aside0.mk (blk_drew BK452.out)
                have n3_ := Aside0.mk (blk_drew BK458.out)
                have n4_ := Aside0.mk (blk_drew BK464.out)
                have n5_ := Aside0.mk (blk_drew BK476.out)
                have n6_ := Aside0.mk (below_drew1 HB.out)
                clear HO_4
                clear HO_11
                clear BK452
                clear BK458
                clear BK464
                clear BK476
                clear HB
                have HO_4 := n0_
                have HO_11 := n1_
                have BK452 := n2_
                have BK458 := n3_
                have BK464 := n4_
                have BK476 := n5_
                have HB := n6_
                clear n0_ n1_ n2_ n3_ n4_ n5_ n6_
                have p480 : 0 ≤ (x12_3 : Int) := of_decide_eq_true (by first | (with_reducible assumption) | assumption)
                have q480 : x12_3 < (t449.length : Int) := of_decide_eq_true (by first | (with_reducible assumption) | assumption)
                obtain ⟨ad480, e480, hx480_0⟩ := Kd.at_int (Kd.R_reads' HO_4.out).2.2 x12_3 p480 q480
                cases e480
                replace p480 := eq_true p480
                replace q480 := eq_true q480
                have p481 : 0 ≤ (x12_3 : Int) := of_decide_eq_true (by first | (with_reducible assumption) | assumption)
                have q481 : x12_3 < (t449.length : Int) := of_decide_eq_true (by first | (with_reducible assumption) | assumption)
                obtain ⟨ad481, e481, hx481_0⟩ := Kd.at_int (Kd.R_reads' HO_4.out).2.2 x12_3 p481 q481
                obtain rfl : ad480 = ad481 := (by injection e481)
                replace p481 := eq_true p481
                replace q481 := eq_true q481
                refine start_ (n := 16) (S := fun w' => w'.cell? (ad480.add (x12_3).toNat) = some (.int .i64 (rd t449 x12_3)) ∧ w'.cell? (ad480.add (x12_3).toNat) = some (.int .i64 (rd t449 x12_3))) (ds := [13, 14]) (bz 16 0) (by kernel_rfl) rfl rfl ⟨hx480_0, hx481_0⟩ (fun hHeld => ?_); refine with_tabW laws_FnBayRun.tab15 laws_FnBayRun.bits15 (fun HT_ HW_ => ?_)
                generalize wr.drew = w69 at HO_4 HO_11 BK452 BK458 BK464 BK476 HB hx480_0 hx481_0 hHeld ⊢
                refine pure_ (i := 0) (N := some 75) (v := ?_) (a' := ?_) (bz 16 1) rfl rfl (any_of HT_.out (by kernel_rfl)) (fun _ _ _ h => h) (Or.inl ⟨by rfl, ?_⟩) ?_ ?_
                rotate_left
                ·intro w'
                 go_simp
                 with_reducible rfl
                rotate_left
                ·simp only [Act.put, List.setIfInBounds_toArray, List.set_cons_zero, List.set_cons_succ, i64_w, i32_w]
                 rfl
                refine pure_ (i := 1) (N := some 76) (v := ?_) (a' := ?_) (bz 16 3) rfl rfl (any_of HT_.out (by kernel_rfl)) (fun _ _ _ h => h) (Or.inl ⟨by rfl, ?_⟩) ?_ ?_
                rotate_left
                ·intro w'
                 go_simp
                 with_reducible rfl
                rotate_left
                ·simp only [Act.put, List.setIfInBounds_toArray, List.set_cons_zero, List.set_cons_succ, i64_w, i32_w]
                 rfl
                refine pure_ (i := 2) (N := some 77) (v := ?_) (a' := ?_) (bz 16 7) rfl rfl (any_of HT_.out (by kernel_rfl)) (fun _ _ _ h => h) (Or.inl ⟨by rfl, ?_⟩) ?_ ?_
                rotate_left
                ·intro w'
                 go_simp
                 with_reducible rfl
                rotate_left
                ·simp only [Act.put, List.setIfInBounds_toArray, List.set_cons_zero, List.set_cons_succ, i64_w, i32_w]
                 rfl
                refine pure_ (i := 3) (N := some 78) (v := ?_) (a' := ?_) (bz 16 15) rfl rfl (any_of HT_.out (by kernel_rfl)) (fun _ _ _ h => h) (Or.inl ⟨by rfl, ?_⟩) ?_ ?_
                rotate_left
                ·intro w'
                 go_simp
                 with_reducible rfl
                rotate_left
                ·simp only [Act.put, List.setIfInBounds_toArray, List.set_cons_zero, List.set_cons_succ, i64_w, i32_w]
                 rfl
                refine pure_ (i := 6) (N := some 81) (v := ?_) (a' := ?_) (bz 16 79) rfl rfl (any_of HT_.out (by kernel_rfl)) (fun _ _ _ h => h) (Or.inl ⟨by rfl, ?_⟩) ?_ ?_
                rotate_left
                ·intro w'
                 go_simp
                 with_reducible rfl
                rotate_left
                ·simp only [Act.put, List.setIfInBounds_toArray, List.set_cons_zero, List.set_cons_succ, i64_w, i32_w]
                 rfl
                refine pure_ (i := 7) (N := some 82) (v := ?_) (a' := ?_) (bz 16 207) rfl rfl (any_of HT_.out (by kernel_rfl)) (fun _ _ _ h => h) (Or.inl ⟨by rfl, ?_⟩) ?_ ?_
                rotate_left
                ·intro w'
                 go_simp
                 with_reducible rfl
                rotate_left
                ·simp only [Act.put, List.setIfInBounds_toArray, List.set_cons_zero, List.set_cons_succ, i64_w, i32_w]
                 rfl
                refine pure_ (i := 8) (N := some 83) (v := ?_) (a' := ?_) (bz 16 463) rfl rfl (any_of HT_.out (by kernel_rfl)) (fun _ _ _ h => h) (Or.inl ⟨by rfl, ?_⟩) ?_ ?_
                rotate_left
                ·intro w'
                 go_simp
                 with_reducible rfl
                rotate_left
                ·simp only [Act.put, List.setIfInBounds_toArray, List.set_cons_zero, List.set_cons_succ, i64_w, i32_w]
                 rfl
                refine take_ (i := 4) (N := some 79) (v := ?_) (a' := ?_) (bz 16 479) rfl rfl (take_ofW HT_.out HW_.out (by kernel_rfl)) (fun _ _ _ h => h) (Or.inl ⟨by rfl, ?_⟩) hHeld ?_ ?_
                rotate_left
                ·rintro w' ⟨s0, s1⟩
                 go_simp
                 with_reducible rfl
                rotate_left
                ·simp only [Act.put, List.setIfInBounds_toArray, List.set_cons_zero, List.set_cons_succ, i64_w, i32_w]
                 rfl
                refine pure_ (i := 5) (N := some 80) (v := ?_) (a' := ?_) (bz 16 511) rfl rfl (any_of HT_.out (by kernel_rfl)) (fun _ _ _ h => h) (Or.inl ⟨by rfl, ?_⟩) ?_ ?_
                rotate_left
                ·intro w'
                 go_simp
                 with_reducible rfl
                rotate_left
                ·simp only [Act.put, List.setIfInBounds_toArray, List.set_cons_zero, List.set_cons_succ, i64_w, i32_w]
                 rfl
                refine take_ (i := 9) (N := some 84) (v := ?_) (a' := ?_) (bz 16 1023) rfl rfl (take_ofW HT_.out HW_.out (by kernel_rfl)) (fun _ _ _ h => h) (Or.inl ⟨by rfl, ?_⟩) hHeld ?_ ?_
                rotate_left
                ·rintro w' ⟨s0, s1⟩
                 go_simp
                 with_reducible rfl
                rotate_left
                ·simp only [Act.put, List.setIfInBounds_toArray, List.set_cons_zero, List.set_cons_succ, i64_w, i32_w]
                 rfl
                refine pure_ (i := 10) (N := some 85) (v := ?_) (a' := ?_) (bz 16 2047) rfl rfl (any_of HT_.out (by kernel_rfl)) (fun _ _ _ h => h) (Or.inl ⟨by rfl, ?_⟩) ?_ ?_
                rotate_left
                ·intro w'
                 go_simp
                 with_reducible rfl
                rotate_left
                ·simp only [Act.put, List.setIfInBounds_toArray, List.set_cons_zero, List.set_cons_succ, i64_w, i32_w]
                 rfl
                refine pure_ (i := 11) (N := some 86) (v := ?_) (a' := ?_) (bz 16 4095) rfl rfl (any_of HT_.out (by kernel_rfl)) (fun _ _ _ h => h) (Or.inl ⟨by rfl, ?_⟩) ?_ ?_
                rotate_left
                ·intro w'
                 go_simp
                 with_reducible rfl
                rotate_left
                ·simp only [Act.put, List.setIfInBounds_toArray, List.set_cons_zero, List.set_cons_succ, i64_w, i32_w]
                 rfl
                refine pure_ (i := 12) (N := some 87) (v := ?_) (a' := ?_) (bz 16 8191) rfl rfl (any_of HT_.out (by kernel_rfl)) (fun _ _ _ h => h) (Or.inl ⟨by rfl, ?_⟩) ?_ ?_
                rotate_left
                ·intro w'
                 go_simp
                 with_reducible rfl
                rotate_left
                ·simp only [Act.put, List.setIfInBounds_toArray, List.set_cons_zero, List.set_cons_succ, i64_w, i32_w]
                 rfl
                refine last_ (i := 13) (N := some 88) (bz 16 16383) rfl rfl (one_of HT_.out (by kernel_rfl)) (by decide) (fun K hK => ?_)
                refine value_ (w1 := ?_) (v := ?_) (by rfl) rfl ?_ ?_
                rotate_left 2
                ·go_simp
                 constructor
                 ·rfl
                 ·rfl
                refine hK.out _ _ ?_
                clear hK K
                refine norm_ (a' := ?_) ?_ ?_
                rotate_left
                ·show Act.put _ (some 88) _ = _
                 simp only [Act.put, List.setIfInBounds_toArray, List.set_cons_zero, List.set_cons_succ, i64_w, i32_w]
                 rfl
                refine last_ (i := 14) (N := some 89) (bz 16 32767) rfl rfl (one_of HT_.out (by kernel_rfl)) (by decide) (fun K hK => ?_)
                refine Kd.R_append_step (Kd.int .i64) (w0 := w) w.heap.size (by rfl) (.tmp 75) (.tmp 88) 30 3 (.int .i64 0) 8 rfl Tryd.underlying30 info3 rfl (by decide) (by omega) u11 x11_3 (wrap64 ((wrap64 ((rd t449 x12_3) + 1)) - (wrap64 (2 * (Int.tmod (rd t449 x12_3) 2))))) [.int .i64 (wrap64 ((wrap64 ((rd t449 x12_3) + 1)) - (wrap64 (2 * (Int.tmod (rd t449 x12_3) 2)))))] (fun k_ => some k_ ≠ (.slice (some ad480) t449.length co10 : Value).ownBlock) (fun _ => False) rfl rfl ?aP (fun _ hk => by first | exact hk.elim | grind) ?aF ?aO ?aB ?aS ?aL ?_
                (case aP => exact rfl)
                (case aB => exact bw)
                (case aF => exact (fun k_ hk => Kd.fresh' (Kd.R_lt (rk HO_4)) k_ hk))
                (case aO => exact (rk HO_11))
                (case aS => exact (below_size bw))
                (case aL => have := LMc68.out; omega)
                intro v483 w70 ho hb hg hat
                rw [← Ny482.out] at ho
                have n0_ := Aside0.mk (Kd.R_after (ok := (fun _ => True)) (by (with_reducible repeat (first | apply Kd.R_alloc | apply Kd.R_drewN | apply Kd.R_drew)); exact Kd.R_mono HO_4.out (fun _ hk => by first | exact ⟨trivial, hk⟩ | grind)) hg hat)
                have n1_ := Aside0.mk (blk_grown (g := gb452) (o := .cells #[.bool t445, .bool t446, .bool t447, .bool t448] 59 (0, 0)) (bk BK452) hg (Kd.R_ne HO_11.out BK452.out (by decide)))
                have n2_ := Aside0.mk (blk_grown (g := gb458) (o := .cells #[.bool t453, .bool t454, .bool t455, .bool t456] 59 (0, 0)) (bk BK458) hg (Kd.R_ne HO_11.out BK458.out (by decide)))
                have n3_ := Aside0.mk (blk_grown (g := gb464) (o := .cells #[.bool t459, .bool t460, .bool t461, .bool t462] 59 (0, 0)) (bk BK464) hg (Kd.R_ne HO_11.out BK464.out (by decide)))
                have n4_ := Aside0.mk (blk_grown (g := gb476) (o := .cells #[.bool t471, .bool t472, .bool t473, .bool t474] 59 (0, 0)) (bk BK476) hg (Kd.R_ne HO_11.out BK476.out (by decide)))
                have n5_ := Aside0.mk (hb)
                have n6_ := Aside0.mk (ho)
                clear HO_4
                clear BK452
                clear BK458
                clear BK464
                clear BK476
                clear HB
                clear HO_11
                have HO_4 := n0_
                have BK452 := n1_
                have BK458 := n2_
                have BK464 := n3_
                have BK476 := n4_
                have HB := n5_
                have HO484 := n6_
                clear n0_ n1_ n2_ n3_ n4_ n5_ n6_
                clear ho hb hg hat
                refine hK.out _ _ ?_
                clear hK K
                refine norm_ (a' := ?_) ?_ ?_
                rotate_left
                ·show Act.put _ (some 89) _ = _
                 simp only [Act.put, List.setIfInBounds_toArray, List.set_cons_zero, List.set_cons_succ, i64_w, i32_w]
                 rfl
                refine pure_ (i := 15) (N := some 11) (v := ?_) (a' := ?_) (bz 16 65535) rfl rfl (any_of HT_.out (by kernel_rfl)) (fun _ _ _ h => h) (Or.inl ⟨by rfl, ?_⟩) ?_ ?_
                rotate_left
                ·intro w'
                 go_simp
                 with_reducible rfl
                rotate_left
                ·simp only [Act.put, List.setIfInBounds_toArray, List.set_cons_zero, List.set_cons_succ, i64_w, i32_w]
                 rfl
                refine done_ (done_of HT_.out (by kernel_rfl)) ?_
                try go_wp2
                go_roundg k3
                case measure => have := HJ5.out; have := HJ32.out; have := HK3.out; omega
                case rel => exact ⟨(y482), (wrap64 (x12_3 - 1)), (by first | rfl | (simp; done) | (simp [*]; done)), H', ⟨by have := HJ5.out; have := HJ32.out; have := HK3.out; omega⟩, ⟨by (with_reducible repeat (first | apply Kd.R_alloc | apply Kd.R_drewN | apply Kd.R_drew)); exact Kd.R_mono HO_4.out (fun _ hk => by first | exact hk.2 | grind)⟩, ⟨rk HO484⟩, ⟨bk BK452⟩, ⟨bk BK458⟩, ⟨bk BK464⟩, ⟨bk BK476⟩, ⟨bw⟩⟩
               ·rw [if_neg c68] at H
                exact absurd H (by simp)
              ·rw [if_neg c67] at H
               exact absurd H (by simp)
             ·rw [if_neg c66] at H
              exact absurd H (by simp)
            ·rw [if_neg c65] at H
             have c65b0 : decide (0 ≤ x12_3) = false := decide_eq_false c65
             clear c65
             replace H := Option.bind_eq_some_iff.mp H
             obtain ⟨⟨t485, t486, t487, t488, t489⟩, A710, H⟩ := H
             replace H : (if (t471 == t453 && (t472 == t454 && (t473 == t455 && (t474 == t456)))) = true then (if t475 = t457 then ((impl_BaySafe.f t445 t446 t447 t448).bind fun t491 => (if t491 = true then (if (t485 == t445 && (t486 == t446 && (t487 == t447 && (t488 == t448)))) = true then (if t489 = t457 then ((laws_alive.f k3).bind fun t492 => (some t492)) else (some false)) else (some false)) else ((laws_alive.f k3).bind fun t493 => (some t493)))) else (some false)) else (some false)) = some r := H
             have A71 := Aside0.mk A710
             clear A710
             by_cases c72 : (t471 == t453 && (t472 == t454 && (t473 == t455 && (t474 == t456)))) = true
             ·rw [if_pos c72] at H
              have c72b0 : (t471 == t453 && (t472 == t454 && (t473 == t455 && (t474 == t456)))) = true := c72
              (try (have c72b1 : decide (t471 = t453 && (t472 == t454 && (t473 == t455 && (t474 == t456)))) = true := by simpa using c72))
              (try (have c72b2 : (t471 == t453 && (t472 == t454 && (t473 == t455 && (t474 == t456)))) = true := by simpa using c72))
              clear c72
              by_cases c73 : t475 = t457
              ·rw [if_pos c73] at H
               have c73b0 : (t475 == t457) = true := beq_iff_eq.mpr c73
               have c73b1 : (t475 != t457) = false := bne_eq_false_iff_eq.mpr c73
               clear c73
               replace H := Option.bind_eq_some_iff.mp H
               obtain ⟨t491, A740, H⟩ := H
               replace H : (if t491 = true then (if (t485 == t445 && (t486 == t446 && (t487 == t447 && (t488 == t448)))) = true then (if t489 = t457 then ((laws_alive.f k3).bind fun t492 => (some t492)) else (some false)) else (some false)) else ((laws_alive.f k3).bind fun t493 => (some t493))) = some r := H
               have A74 := Aside0.mk A740
               clear A740
               by_cases c75 : t491 = true
               ·subst c75
                have H1 : (if (t485 == t445 && (t486 == t446 && (t487 == t447 && (t488 == t448)))) = true then (if t489 = t457 then ((laws_alive.f k3).bind fun t492 => (some t492)) else (some false)) else (some false)) = some r := by rw [if_pos rfl] at H; exact H
                clear H
                have H := H1
                clear H1
                by_cases c76 : (t485 == t445 && (t486 == t446 && (t487 == t447 && (t488 == t448)))) = true
                ·rw [if_pos c76] at H
                 have c76b0 : (t485 == t445 && (t486 == t446 && (t487 == t447 && (t488 == t448)))) = true := c76
                 (try (have c76b1 : decide (t485 = t445 && (t486 == t446 && (t487 == t447 && (t488 == t448)))) = true := by simpa using c76))
                 (try (have c76b2 : (t485 == t445 && (t486 == t446 && (t487 == t447 && (t488 == t448)))) = true := by simpa using c76))
                 clear c76
                 by_cases c77 : t489 = t457
                 ·rw [if_pos c77] at H
                  have c77b0 : (t489 == t457) = true := beq_iff_eq.mpr c77
                  have c77b1 : (t489 != t457) = false := bne_eq_false_iff_eq.mpr c77
                  clear c77
                  replace H := Option.bind_eq_some_iff.mp H
                  obtain ⟨t492, A780, H⟩ := H
                  replace H : (some t492) = some r := H
                  have A78 := Aside0.mk A780
                  clear A780
                  obtain rfl := Option.some.inj H
                  have hnb79 := NB458_452.out
                  have hnc79 := NB452_458.out
                  have hnb80 := NB458_464.out
                  have hnc80 := NB464_458.out
                  have hnb81 := NB458_476.out
                  have hnc81 := NB476_458.out
                  have hcz82_0 : wr.cell? ⟨gb458, 0, none⟩ = some (.bool t453) := (blk_cell BK458.out 0).trans rfl
                  have hcz82_1 : wr.cell? ⟨gb458, 1, none⟩ = some (.bool t454) := (blk_cell BK458.out 1).trans rfl
                  have hcz82_2 : wr.cell? ⟨gb458, 2, none⟩ = some (.bool t455) := (blk_cell BK458.out 2).trans rfl
                  have hcz82_3 : wr.cell? ⟨gb458, 3, none⟩ = some (.bool t456) := (blk_cell BK458.out 3).trans rfl
                  have hfz82_0 := blk_frozen BK458.out 0
                  have hfz82_1 := blk_frozen BK458.out 1
                  have hfz82_2 := blk_frozen BK458.out 2
                  have hfz82_3 := blk_frozen BK458.out 3
                  obtain ⟨Ao83, co83, eo83⟩ := Kd.R_slice HO_11.out
                  subst eo83
                  have TK0_ := Aside0.mk trivial
                  go_wp2_with (first | (clear TK0_; (with_reducible refine gate_callee (f := 65) rfl ?_); refine goesL_ (some 93) rfl rfl Tryd.func65 (by kernel_rfl) rfl #[.agg #[.bool t453, .bool t454, .bool t455, .bool t456], .slice Ao83 x11_3.length co83] rfl (by (try simp only [List.map_toArray, List.map_cons, List.map_nil]); first | done | rfl | (simp only [List.length_drop, List.length_take]; rfl)) ?_; (with_reducible refine (impl_BayRun.calls k3 t453 t454 t455 t456 _ _ x11_3 t485 t486 t487 t488 t489 _ ?side1 ?side2 A71.out).mono ?_); (case side1 => repeat (first | exact (Kd.R_reads' HO_11.out).2.2 | (with_reducible refine Kd.C_alloc ?_ _) | (with_reducible refine Kd.C_drewN ?_ _) | (with_reducible refine Kd.C_drew ?_))); (case side2 => exact (Kd.R_reads' HO_11.out).2.1); rintro e w84 ⟨rfl, hb⟩; refine ⟨_, rfl, ?_⟩; have n0_ := rB HO_4 hb; have n1_ := rB HO_11 hb; have n2_ := bkB BK452 hb; have n3_ := bkB BK458 hb; have n4_ := bkB BK464 hb; have n5_ := bkB BK476 hb; have n6_ := Aside0.mk (below_step bw hb); clear HO_4 HO_11 BK452 BK458 BK464 BK476 HB; have HO_4 := n0_; have HO_11 := n1_; have BK452 := n2_; have BK458 := n3_; have BK464 := n4_; have BK476 := n5_; have HB := n6_; clear n0_ n1_ n2_ n3_ n4_ n5_ n6_; (try clear hb); (try clear hb2); (try clear hk); (try clear hi); have TK1_ := Aside0.mk trivial) | (clear TK1_; (with_reducible refine gate_dst (N := 13) rfl ?_); (try (refine gate_guard (by rfl) ?_; dsimp only)); refine box_event ?hg (N := 13) ?hd (cs := #[.bool false, .bool false, .bool false, .bool false]) (t := 59) ?hr ?_; (case hd => rfl); (case hg => rfl); (case hr => first | (go_simp; done) | (go_simp; rfl)); intro gb490 hg w85 hbox hb; have n0_ := rB HO_4 hb; have n1_ := rB HO_11 hb; have n2_ := bkB BK452 hb; have n3_ := bkB BK458 hb; have n4_ := bkB BK464 hb; have n5_ := bkB BK476 hb; have n6_ := Aside0.mk (below_step bw hb); have n7_ := Aside0.mk (hbox); have n8_ := Aside0.mk ((by rw [hg]; exact (below_size bw) : w.heap.size ≤ gb490)); have n9_ := Aside0.mk ((by rw [hg]; exact (below_size bw) : w.heap.size ≤ gb490)); have n10_ := Aside0.mk ((by rw [hg]; exact Nat.ne_of_lt (blk_lt (g := gb452) (o := .cells #[.bool t445, .bool t446, .bool t447, .bool t448] 59 (0, 0)) (bk BK452)) : gb452 ≠ gb490)); have n11_ := Aside0.mk ((by rw [hg]; exact Nat.ne_of_gt (blk_lt (g := gb452) (o := .cells #[.bool t445, .bool t446, .bool t447, .bool t448] 59 (0, 0)) (bk BK452)) : gb490 ≠ gb452)); have n12_ := Aside0.mk ((by rw [hg]; exact Nat.ne_of_lt (blk_lt (g := gb458) (o := .cells #[.bool t453, .bool t454, .bool t455, .bool t456] 59 (0, 0)) (bk BK458)) : gb458 ≠ gb490)); have n13_ := Aside0.mk ((by rw [hg]; exact Nat.ne_of_gt (blk_lt (g := gb458) (o := .cells #[.bool t453, .bool t454, .bool t455, .bool t456] 59 (0, 0)) (bk BK458)) : gb490 ≠ gb458)); have n14_ := Aside0.mk ((by rw [hg]; exact Nat.ne_of_lt (blk_lt (g := gb464) (o := .cells #[.bool t459, .bool t460, .bool t461, .bool t462] 59 (0, 0)) (bk BK464)) : gb464 ≠ gb490)); have n15_ := Aside0.mk ((by rw [hg]; exact Nat.ne_of_gt (blk_lt (g := gb464) (o := .cells #[.bool t459, .bool t460, .bool t461, .bool t462] 59 (0, 0)) (bk BK464)) : gb490 ≠ gb464)); have n16_ := Aside0.mk ((by rw [hg]; exact Nat.ne_of_lt (blk_lt (g := gb476) (o := .cells #[.bool t471, .bool t472, .bool t473, .bool t474] 59 (0, 0)) (bk BK476)) : gb476 ≠ gb490)); have n17_ := Aside0.mk ((by rw [hg]; exact Nat.ne_of_gt (blk_lt (g := gb476) (o := .cells #[.bool t471, .bool t472, .bool t473, .bool t474] 59 (0, 0)) (bk BK476)) : gb490 ≠ gb476)); clear HO_4 HO_11 BK452 BK458 BK464 BK476 HB; have HO_4 := n0_; have HO_11 := n1_; have BK452 := n2_; have BK458 := n3_; have BK464 := n4_; have BK476 := n5_; have HB := n6_; have BK490 := n7_; have GW490 := n8_; have GE490 := n9_; have NB452_490 := n10_; have NB490_452 := n11_; have NB458_490 := n12_; have NB490_458 := n13_; have NB464_490 := n14_; have NB490_464 := n15_; have NB476_490 := n16_; have NB490_476 := n17_; clear n0_ n1_ n2_ n3_ n4_ n5_ n6_ n7_ n8_ n9_ n10_ n11_ n12_ n13_ n14_ n15_ n16_ n17_; clear hb hbox hg; have hnb86 := NB490_452.out; have hnc86 := NB452_490.out; have hnb87 := NB490_458.out; have hnc87 := NB458_490.out; have hnb88 := NB490_464.out; have hnc88 := NB464_490.out; have hnb89 := NB490_476.out; have hnc89 := NB476_490.out; have hcz90_0 : w85.cell? ⟨gb490, 0, none⟩ = some (.bool false) := (blk_cell BK490.out 0).trans rfl; have hcz90_1 : w85.cell? ⟨gb490, 1, none⟩ = some (.bool false) := (blk_cell BK490.out 1).trans rfl; have hcz90_2 : w85.cell? ⟨gb490, 2, none⟩ = some (.bool false) := (blk_cell BK490.out 2).trans rfl; have hcz90_3 : w85.cell? ⟨gb490, 3, none⟩ = some (.bool false) := (blk_cell BK490.out 3).trans rfl; have hfz90_0 := blk_frozen BK490.out 0; have hfz90_1 := blk_frozen BK490.out 1; have hfz90_2 := blk_frozen BK490.out 2; have hfz90_3 := blk_frozen BK490.out 3; have hnb91 := NB476_452.out; have hnc91 := NB452_476.out; have hnb92 := NB476_464.out; have hnc92 := NB464_476.out; have hcz93_0 : w85.cell? ⟨gb476, 0, none⟩ = some (.bool t471) := (blk_cell BK476.out 0).trans rfl; have hcz93_1 : w85.cell? ⟨gb476, 1, none⟩ = some (.bool t472) := (blk_cell BK476.out 1).trans rfl; have hcz93_2 : w85.cell? ⟨gb476, 2, none⟩ = some (.bool t473) := (blk_cell BK476.out 2).trans rfl; have hcz93_3 : w85.cell? ⟨gb476, 3, none⟩ = some (.bool t474) := (blk_cell BK476.out 3).trans rfl; have hfz93_0 := blk_frozen BK476.out 0; have hfz93_1 := blk_frozen BK476.out 1; have hfz93_2 := blk_frozen BK476.out 2; have hfz93_3 := blk_frozen BK476.out 3; have hcz94_0 : w85.cell? ⟨gb458, 0, none⟩ = some (.bool t453) := (blk_cell BK458.out 0).trans rfl; have hcz94_1 : w85.cell? ⟨gb458, 1, none⟩ = some (.bool t454) := (blk_cell BK458.out 1).trans rfl; have hcz94_2 : w85.cell? ⟨gb458, 2, none⟩ = some (.bool t455) := (blk_cell BK458.out 2).trans rfl; have hcz94_3 : w85.cell? ⟨gb458, 3, none⟩ = some (.bool t456) := (blk_cell BK458.out 3).trans rfl; have hfz94_0 := blk_frozen BK458.out 0; have hfz94_1 := blk_frozen BK458.out 1; have hfz94_2 := blk_frozen BK458.out 2; have hfz94_3 := blk_frozen BK458.out 3; have hnb95 := NB452_464.out; have hnc95 := NB464_452.out; have hcz96_0 : w85.cell? ⟨gb452, 0, none⟩ = some (.bool t445) := (blk_cell BK452.out 0).trans rfl; have hcz96_1 : w85.cell? ⟨gb452, 1, none⟩ = some (.bool t446) := (blk_cell BK452.out 1).trans rfl; have hcz96_2 : w85.cell? ⟨gb452, 2, none⟩ = some (.bool t447) := (blk_cell BK452.out 2).trans rfl; have hcz96_3 : w85.cell? ⟨gb452, 3, none⟩ = some (.bool t448) := (blk_cell BK452.out 3).trans rfl; have hfz96_0 := blk_frozen BK452.out 0; have hfz96_1 := blk_frozen BK452.out 1; have hfz96_2 := blk_frozen BK452.out 2; have hfz96_3 := blk_frozen BK452.out 3; have TK2_ := Aside0.mk trivial) | (clear TK2_; go_at_call 43; (with_reducible refine (impl_BaySafe.calls t445 t446 t447 t448 true _ A74.out).mono ?_); rintro e w97 ⟨rfl, hb⟩; have n0_ := Aside0.mk (Kd.R_below (by (with_reducible repeat (first | apply Kd.R_alloc | apply Kd.R_drewN | apply Kd.R_drew)); exact (Kd.R_mono (Kd.R_far (p := ⟨gb490, 3, none⟩) (Kd.R_far (p := ⟨gb490, 2, none⟩) (Kd.R_far (p := ⟨gb490, 1, none⟩) (Kd.R_far (p := ⟨gb490, 0, none⟩) (Kd.R_types HO_4.out BK490.out (by decide)) (fun _ hk => by first | exact hk.2 | grind) (.bool t485)) (fun _ hk => by first | exact hk.2 | grind) (.bool t486)) (fun _ hk => by first | exact hk.2 | grind) (.bool t487)) (fun _ hk => by first | exact hk.2 | grind) (.bool t488)) (fun _ h_ => h_.1))) hb); have n1_ := Aside0.mk (Kd.R_below (by (with_reducible repeat (first | apply Kd.R_alloc | apply Kd.R_drewN | apply Kd.R_drew)); exact (Kd.R_mono (Kd.R_far (p := ⟨gb490, 3, none⟩) (Kd.R_far (p := ⟨gb490, 2, none⟩) (Kd.R_far (p := ⟨gb490, 1, none⟩) (Kd.R_far (p := ⟨gb490, 0, none⟩) (Kd.R_types HO_11.out BK490.out (by decide)) (fun _ hk => by first | exact hk.2 | grind) (.bool t485)) (fun _ hk => by first | exact hk.2 | grind) (.bool t486)) (fun _ hk => by first | exact hk.2 | grind) (.bool t487)) (fun _ hk => by first | exact hk.2 | grind) (.bool t488)) (fun _ h_ => h_.1))) hb); have n2_ := Aside0.mk (blk_below (g := gb452) (o := .cells #[.bool t445, .bool t446, .bool t447, .bool t448] 59 (0, 0)) (by (with_reducible repeat (first | refine blk_drewN ?_ _ | refine blk_drew ?_ | refine blk_alloc ?_ _)); refine blk_far ?_ NB452_490.out _; (with_reducible repeat (first | refine blk_drewN ?_ _ | refine blk_drew ?_ | refine blk_alloc ?_ _)); refine blk_far ?_ NB452_490.out _; (with_reducible repeat (first | refine blk_drewN ?_ _ | refine blk_drew ?_ | refine blk_alloc ?_ _)); refine blk_far ?_ NB452_490.out _; (with_reducible repeat (first | refine blk_drewN ?_ _ | refine blk_drew ?_ | refine blk_alloc ?_ _)); refine blk_far ?_ NB452_490.out _; (with_reducible repeat (first | refine blk_drewN ?_ _ | refine blk_drew ?_ | refine blk_alloc ?_ _)); exact BK452.out) hb); have n3_ := Aside0.mk (blk_below (g := gb458) (o := .cells #[.bool t453, .bool t454, .bool t455, .bool t456] 59 (0, 0)) (by (with_reducible repeat (first | refine blk_drewN ?_ _ | refine blk_drew ?_ | refine blk_alloc ?_ _)); refine blk_far ?_ NB458_490.out _; (with_reducible repeat (first | refine blk_drewN ?_ _ | refine blk_drew ?_ | refine blk_alloc ?_ _)); refine blk_far ?_ NB458_490.out _; (with_reducible repeat (first | refine blk_drewN ?_ _ | refine blk_drew ?_ | refine blk_alloc ?_ _)); refine blk_far ?_ NB458_490.out _; (with_reducible repeat (first | refine blk_drewN ?_ _ | refine blk_drew ?_ | refine blk_alloc ?_ _)); refine blk_far ?_ NB458_490.out _; (with_reducible repeat (first | refine blk_drewN ?_ _ | refine blk_drew ?_ | refine blk_alloc ?_ _)); exact BK458.out) hb); have n4_ := Aside0.mk (blk_below (g := gb464) (o := .cells #[.bool t459, .bool t460, .bool t461, .bool t462] 59 (0, 0)) (by (with_reducible repeat (first | refine blk_drewN ?_ _ | refine blk_drew ?_ | refine blk_alloc ?_ _)); refine blk_far ?_ NB464_490.out _; (with_reducible repeat (first | refine blk_drewN ?_ _ | refine blk_drew ?_ | refine blk_alloc ?_ _)); refine blk_far ?_ NB464_490.out _; (with_reducible repeat (first | refine blk_drewN ?_ _ | refine blk_drew ?_ | refine blk_alloc ?_ _)); refine blk_far ?_ NB464_490.out _; (with_reducible repeat (first | refine blk_drewN ?_ _ | refine blk_drew ?_ | refine blk_alloc ?_ _)); refine blk_far ?_ NB464_490.out _; (with_reducible repeat (first | refine blk_drewN ?_ _ | refine blk_drew ?_ | refine blk_alloc ?_ _)); exact BK464.out) hb); have n5_ := Aside0.mk (blk_below (g := gb476) (o := .cells #[.bool t471, .bool t472, .bool t473, .bool t474] 59 (0, 0)) (by (with_reducible repeat (first | refine blk_drewN ?_ _ | refine blk_drew ?_ | refine blk_alloc ?_ _)); refine blk_far ?_ NB476_490.out _; (with_reducible repeat (first | refine blk_drewN ?_ _ | refine blk_drew ?_ | refine blk_alloc ?_ _)); refine blk_far ?_ NB476_490.out _; (with_reducible repeat (first | refine blk_drewN ?_ _ | refine blk_drew ?_ | refine blk_alloc ?_ _)); refine blk_far ?_ NB476_490.out _; (with_reducible repeat (first | refine blk_drewN ?_ _ | refine blk_drew ?_ | refine blk_alloc ?_ _)); refine blk_far ?_ NB476_490.out _; (with_reducible repeat (first | refine blk_drewN ?_ _ | refine blk_drew ?_ | refine blk_alloc ?_ _)); exact BK476.out) hb); have n6_ := Aside0.mk (blk_below (g := gb490) (o := .cells #[.bool t485, .bool t486, .bool t487, .bool t488] 59 (0, 0)) (by (with_reducible repeat (first | refine blk_drewN ?_ _ | refine blk_drew ?_ | refine blk_alloc ?_ _)); refine blk_put (cs := #[.bool t485, .bool t486, .bool t487, .bool false]) ?_ 3 _ rfl; (with_reducible repeat (first | refine blk_drewN ?_ _ | refine blk_drew ?_ | refine blk_alloc ?_ _)); refine blk_put (cs := #[.bool t485, .bool t486, .bool false, .bool false]) ?_ 2 _ rfl; (with_reducible repeat (first | refine blk_drewN ?_ _ | refine blk_drew ?_ | refine blk_alloc ?_ _)); refine blk_put (cs := #[.bool t485, .bool false, .bool false, .bool false]) ?_ 1 _ rfl; (with_reducible repeat (first | refine blk_drewN ?_ _ | refine blk_drew ?_ | refine blk_alloc ?_ _)); refine blk_put (cs := #[.bool false, .bool false, .bool false, .bool false]) ?_ 0 _ rfl; (with_reducible repeat (first | refine blk_drewN ?_ _ | refine blk_drew ?_ | refine blk_alloc ?_ _)); exact BK490.out) hb); have n7_ := Aside0.mk (below_step bw hb); clear HO_4 HO_11 BK452 BK458 BK464 BK476 BK490 HB; have HO_4 := n0_; have HO_11 := n1_; have BK452 := n2_; have BK458 := n3_; have BK464 := n4_; have BK476 := n5_; have BK490 := n6_; have HB := n7_; clear n0_ n1_ n2_ n3_ n4_ n5_ n6_ n7_; (try clear hb); (try clear hb2); (try clear hk); (try clear hi); have hcz98_0 : w97.cell? ⟨gb490, 0, none⟩ = some (.bool t485) := (blk_cell BK490.out 0).trans rfl; have hcz98_1 : w97.cell? ⟨gb490, 1, none⟩ = some (.bool t486) := (blk_cell BK490.out 1).trans rfl; have hcz98_2 : w97.cell? ⟨gb490, 2, none⟩ = some (.bool t487) := (blk_cell BK490.out 2).trans rfl; have hcz98_3 : w97.cell? ⟨gb490, 3, none⟩ = some (.bool t488) := (blk_cell BK490.out 3).trans rfl; have hfz98_0 := blk_frozen BK490.out 0; have hfz98_1 := blk_frozen BK490.out 1; have hfz98_2 := blk_frozen BK490.out 2; have hfz98_3 := blk_frozen BK490.out 3; have hcz99_0 : w97.cell? ⟨gb452, 0, none⟩ = some (.bool t445) := (blk_cell BK452.out 0).trans rfl; have hcz99_1 : w97.cell? ⟨gb452, 1, none⟩ = some (.bool t446) := (blk_cell BK452.out 1).trans rfl; have hcz99_2 : w97.cell? ⟨gb452, 2, none⟩ = some (.bool t447) := (blk_cell BK452.out 2).trans rfl; have hcz99_3 : w97.cell? ⟨gb452, 3, none⟩ = some (.bool t448) := (blk_cell BK452.out 3).trans rfl; have hfz99_0 := blk_frozen BK452.out 0; have hfz99_1 := blk_frozen BK452.out 1; have hfz99_2 := blk_frozen BK452.out 2; have hfz99_3 := blk_frozen BK452.out 3; have TK3_ := Aside0.mk trivial) | (clear TK3_; go_at_call 21; (with_reducible refine (laws_alive.calls k3  t492 _ A78.out).mono ?_); rintro e w100 ⟨rfl, hb⟩; have n0_ := rB HO_4 hb; have n1_ := rB HO_11 hb; have n2_ := bkB BK452 hb; have n3_ := bkB BK458 hb; have n4_ := bkB BK464 hb; have n5_ := bkB BK476 hb; have n6_ := bkB BK490 hb; have n7_ := Aside0.mk (below_step bw hb); clear HO_4 HO_11 BK452 BK458 BK464 BK476 BK490 HB; have HO_4 := n0_; have HO_11 := n1_; have BK452 := n2_; have BK458 := n3_; have BK464 := n4_; have BK476 := n5_; have BK490 := n6_; have HB := n7_; clear n0_ n1_ n2_ n3_ n4_ n5_ n6_ n7_; (try clear hb); (try clear hb2); (try clear hk); (try clear hi); have TK4_ := Aside0.mk trivial))
                  go_ret
                  exact ⟨by first | rfl | (simp [errW_none, errW_some] <;> rfl) | (simp [*, errW_none, errW_some] <;> rfl), bw⟩
                 ·rw [if_neg c77] at H
                  have c77b0 : (t489 == t457) = false := beq_eq_false_iff_ne.mpr c77
                  have c77b1 : (t489 != t457) = true := bne_iff_ne.mpr c77
                  obtain rfl := Option.some.inj H
                  have hnb101 := NB458_452.out
                  have hnc101 := NB452_458.out
                  have hnb102 := NB458_464.out
                  have hnc102 := NB464_458.out
                  have hnb103 := NB458_476.out
                  have hnc103 := NB476_458.out
                  have hcz104_0 : wr.cell? ⟨gb458, 0, none⟩ = some (.bool t453) := (blk_cell BK458.out 0).trans rfl
                  have hcz104_1 : wr.cell? ⟨gb458, 1, none⟩ = some (.bool t454) := (blk_cell BK458.out 1).trans rfl
                  have hcz104_2 : wr.cell? ⟨gb458, 2, none⟩ = some (.bool t455) := (blk_cell BK458.out 2).trans rfl
                  have hcz104_3 : wr.cell? ⟨gb458, 3, none⟩ = some (.bool t456) := (blk_cell BK458.out 3).trans rfl
                  have hfz104_0 := blk_frozen BK458.out 0
                  have hfz104_1 := blk_frozen BK458.out 1
                  have hfz104_2 := blk_frozen BK458.out 2
                  have hfz104_3 := blk_frozen BK458.out 3
                  obtain ⟨Ao105, co105, eo105⟩ := Kd.R_slice HO_11.out
                  subst eo105
                  have TK0_ := Aside0.mk trivial
                  go_wp2_with (first | (clear TK0_; (with_reducible refine gate_callee (f := 65) rfl ?_); refine goesL_ (some 93) rfl rfl Tryd.func65 (by kernel_rfl) rfl #[.agg #[.bool t453, .bool t454, .bool t455, .bool t456], .slice Ao105 x11_3.length co105] rfl (by (try simp only [List.map_toArray, List.map_cons, List.map_nil]); first | done | rfl | (simp only [List.length_drop, List.length_take]; rfl)) ?_; (with_reducible refine (impl_BayRun.calls k3 t453 t454 t455 t456 _ _ x11_3 t485 t486 t487 t488 t489 _ ?side1 ?side2 A71.out).mono ?_); (case side1 => repeat (first | exact (Kd.R_reads' HO_11.out).2.2 | (with_reducible refine Kd.C_alloc ?_ _) | (with_reducible refine Kd.C_drewN ?_ _) | (with_reducible refine Kd.C_drew ?_))); (case side2 => exact (Kd.R_reads' HO_11.out).2.1); rintro e w106 ⟨rfl, hb⟩; refine ⟨_, rfl, ?_⟩; have n0_ := rB HO_4 hb; have n1_ := rB HO_11 hb; have n2_ := bkB BK452 hb; have n3_ := bkB BK458 hb; have n4_ := bkB BK464 hb; have n5_ := bkB BK476 hb; have n6_ := Aside0.mk (below_step bw hb); clear HO_4 HO_11 BK452 BK458 BK464 BK476 HB; have HO_4 := n0_; have HO_11 := n1_; have BK452 := n2_; have BK458 := n3_; have BK464 := n4_; have BK476 := n5_; have HB := n6_; clear n0_ n1_ n2_ n3_ n4_ n5_ n6_; (try clear hb); (try clear hb2); (try clear hk); (try clear hi); have TK1_ := Aside0.mk trivial) | (clear TK1_; (with_reducible refine gate_dst (N := 13) rfl ?_); (try (refine gate_guard (by rfl) ?_; dsimp only)); refine box_event ?hg (N := 13) ?hd (cs := #[.bool false, .bool false, .bool false, .bool false]) (t := 59) ?hr ?_; (case hd => rfl); (case hg => rfl); (case hr => first | (go_simp; done) | (go_simp; rfl)); intro gb490 hg w107 hbox hb; have n0_ := rB HO_4 hb; have n1_ := rB HO_11 hb; have n2_ := bkB BK452 hb; have n3_ := bkB BK458 hb; have n4_ := bkB BK464 hb; have n5_ := bkB BK476 hb; have n6_ := Aside0.mk (below_step bw hb); have n7_ := Aside0.mk (hbox); have n8_ := Aside0.mk ((by rw [hg]; exact (below_size bw) : w.heap.size ≤ gb490)); have n9_ := Aside0.mk ((by rw [hg]; exact (below_size bw) : w.heap.size ≤ gb490)); have n10_ := Aside0.mk ((by rw [hg]; exact Nat.ne_of_lt (blk_lt (g := gb452) (o := .cells #[.bool t445, .bool t446, .bool t447, .bool t448] 59 (0, 0)) (bk BK452)) : gb452 ≠ gb490)); have n11_ := Aside0.mk ((by rw [hg]; exact Nat.ne_of_gt (blk_lt (g := gb452) (o := .cells #[.bool t445, .bool t446, .bool t447, .bool t448] 59 (0, 0)) (bk BK452)) : gb490 ≠ gb452)); have n12_ := Aside0.mk ((by rw [hg]; exact Nat.ne_of_lt (blk_lt (g := gb458) (o := .cells #[.bool t453, .bool t454, .bool t455, .bool t456] 59 (0, 0)) (bk BK458)) : gb458 ≠ gb490)); have n13_ := Aside0.mk ((by rw [hg]; exact Nat.ne_of_gt (blk_lt (g := gb458) (o := .cells #[.bool t453, .bool t454, .bool t455, .bool t456] 59 (0, 0)) (bk BK458)) : gb490 ≠ gb458)); have n14_ := Aside0.mk ((by rw [hg]; exact Nat.ne_of_lt (blk_lt (g := gb464) (o := .cells #[.bool t459, .bool t460, .bool t461, .bool t462] 59 (0, 0)) (bk BK464)) : gb464 ≠ gb490)); have n15_ := Aside0.mk ((by rw [hg]; exact Nat.ne_of_gt (blk_lt (g := gb464) (o := .cells #[.bool t459, .bool t460, .bool t461, .bool t462] 59 (0, 0)) (bk BK464)) : gb490 ≠ gb464)); have n16_ := Aside0.mk ((by rw [hg]; exact Nat.ne_of_lt (blk_lt (g := gb476) (o := .cells #[.bool t471, .bool t472, .bool t473, .bool t474] 59 (0, 0)) (bk BK476)) : gb476 ≠ gb490)); have n17_ := Aside0.mk ((by rw [hg]; exact Nat.ne_of_gt (blk_lt (g := gb476) (o := .cells #[.bool t471, .bool t472, .bool t473, .bool t474] 59 (0, 0)) (bk BK476)) : gb490 ≠ gb476)); clear HO_4 HO_11 BK452 BK458 BK464 BK476 HB; have HO_4 := n0_; have HO_11 := n1_; have BK452 := n2_; have BK458 := n3_; have BK464 := n4_; have BK476 := n5_; have HB := n6_; have BK490 := n7_; have GW490 := n8_; have GE490 := n9_; have NB452_490 := n10_; have NB490_452 := n11_; have NB458_490 := n12_; have NB490_458 := n13_; have NB464_490 := n14_; have NB490_464 := n15_; have NB476_490 := n16_; have NB490_476 := n17_; clear n0_ n1_ n2_ n3_ n4_ n5_ n6_ n7_ n8_ n9_ n10_ n11_ n12_ n13_ n14_ n15_ n16_ n17_; clear hb hbox hg; have hnb108 := NB490_452.out; have hnc108 := NB452_490.out; have hnb109 := NB490_458.out; have hnc109 := NB458_490.out; have hnb110 := NB490_464.out; have hnc110 := NB464_490.out; have hnb111 := NB490_476.out; have hnc111 := NB476_490.out; have hcz112_0 : w107.cell? ⟨gb490, 0, none⟩ = some (.bool false) := (blk_cell BK490.out 0).trans rfl; have hcz112_1 : w107.cell? ⟨gb490, 1, none⟩ = some (.bool false) := (blk_cell BK490.out 1).trans rfl; have hcz112_2 : w107.cell? ⟨gb490, 2, none⟩ = some (.bool false) := (blk_cell BK490.out 2).trans rfl; have hcz112_3 : w107.cell? ⟨gb490, 3, none⟩ = some (.bool false) := (blk_cell BK490.out 3).trans rfl; have hfz112_0 := blk_frozen BK490.out 0; have hfz112_1 := blk_frozen BK490.out 1; have hfz112_2 := blk_frozen BK490.out 2; have hfz112_3 := blk_frozen BK490.out 3; have hnb113 := NB476_452.out; have hnc113 := NB452_476.out; have hnb114 := NB476_464.out; have hnc114 := NB464_476.out; have hcz115_0 : w107.cell? ⟨gb476, 0, none⟩ = some (.bool t471) := (blk_cell BK476.out 0).trans rfl; have hcz115_1 : w107.cell? ⟨gb476, 1, none⟩ = some (.bool t472) := (blk_cell BK476.out 1).trans rfl; have hcz115_2 : w107.cell? ⟨gb476, 2, none⟩ = some (.bool t473) := (blk_cell BK476.out 2).trans rfl; have hcz115_3 : w107.cell? ⟨gb476, 3, none⟩ = some (.bool t474) := (blk_cell BK476.out 3).trans rfl; have hfz115_0 := blk_frozen BK476.out 0; have hfz115_1 := blk_frozen BK476.out 1; have hfz115_2 := blk_frozen BK476.out 2; have hfz115_3 := blk_frozen BK476.out 3; have hcz116_0 : w107.cell? ⟨gb458, 0, none⟩ = some (.bool t453) := (blk_cell BK458.out 0).trans rfl; have hcz116_1 : w107.cell? ⟨gb458, 1, none⟩ = some (.bool t454) := (blk_cell BK458.out 1).trans rfl; have hcz116_2 : w107.cell? ⟨gb458, 2, none⟩ = some (.bool t455) := (blk_cell BK458.out 2).trans rfl; have hcz116_3 : w107.cell? ⟨gb458, 3, none⟩ = some (.bool t456) := (blk_cell BK458.out 3).trans rfl; have hfz116_0 := blk_frozen BK458.out 0; have hfz116_1 := blk_frozen BK458.out 1; have hfz116_2 := blk_frozen BK458.out 2; have hfz116_3 := blk_frozen BK458.out 3; have hnb117 := NB452_464.out; have hnc117 := NB464_452.out; have hcz118_0 : w107.cell? ⟨gb452, 0, none⟩ = some (.bool t445) := (blk_cell BK452.out 0).trans rfl; have hcz118_1 : w107.cell? ⟨gb452, 1, none⟩ = some (.bool t446) := (blk_cell BK452.out 1).trans rfl; have hcz118_2 : w107.cell? ⟨gb452, 2, none⟩ = some (.bool t447) := (blk_cell BK452.out 2).trans rfl; have hcz118_3 : w107.cell? ⟨gb452, 3, none⟩ = some (.bool t448) := (blk_cell BK452.out 3).trans rfl; have hfz118_0 := blk_frozen BK452.out 0; have hfz118_1 := blk_frozen BK452.out 1; have hfz118_2 := blk_frozen BK452.out 2; have hfz118_3 := blk_frozen BK452.out 3; have TK2_ := Aside0.mk trivial) | (clear TK2_; go_at_call 43; (with_reducible refine (impl_BaySafe.calls t445 t446 t447 t448 true _ A74.out).mono ?_); rintro e w119 ⟨rfl, hb⟩; have n0_ := Aside0.mk (Kd.R_below (by (with_reducible repeat (first | apply Kd.R_alloc | apply Kd.R_drewN | apply Kd.R_drew)); exact (Kd.R_mono (Kd.R_far (p := ⟨gb490, 3, none⟩) (Kd.R_far (p := ⟨gb490, 2, none⟩) (Kd.R_far (p := ⟨gb490, 1, none⟩) (Kd.R_far (p := ⟨gb490, 0, none⟩) (Kd.R_types HO_4.out BK490.out (by decide)) (fun _ hk => by first | exact hk.2 | grind) (.bool t485)) (fun _ hk => by first | exact hk.2 | grind) (.bool t486)) (fun _ hk => by first | exact hk.2 | grind) (.bool t487)) (fun _ hk => by first | exact hk.2 | grind) (.bool t488)) (fun _ h_ => h_.1))) hb); have n1_ := Aside0.mk (Kd.R_below (by (with_reducible repeat (first | apply Kd.R_alloc | apply Kd.R_drewN | apply Kd.R_drew)); exact (Kd.R_mono (Kd.R_far (p := ⟨gb490, 3, none⟩) (Kd.R_far (p := ⟨gb490, 2, none⟩) (Kd.R_far (p := ⟨gb490, 1, none⟩) (Kd.R_far (p := ⟨gb490, 0, none⟩) (Kd.R_types HO_11.out BK490.out (by decide)) (fun _ hk => by first | exact hk.2 | grind) (.bool t485)) (fun _ hk => by first | exact hk.2 | grind) (.bool t486)) (fun _ hk => by first | exact hk.2 | grind) (.bool t487)) (fun _ hk => by first | exact hk.2 | grind) (.bool t488)) (fun _ h_ => h_.1))) hb); have n2_ := Aside0.mk (blk_below (g := gb452) (o := .cells #[.bool t445, .bool t446, .bool t447, .bool t448] 59 (0, 0)) (by (with_reducible repeat (first | refine blk_drewN ?_ _ | refine blk_drew ?_ | refine blk_alloc ?_ _)); refine blk_far ?_ NB452_490.out _; (with_reducible repeat (first | refine blk_drewN ?_ _ | refine blk_drew ?_ | refine blk_alloc ?_ _)); refine blk_far ?_ NB452_490.out _; (with_reducible repeat (first | refine blk_drewN ?_ _ | refine blk_drew ?_ | refine blk_alloc ?_ _)); refine blk_far ?_ NB452_490.out _; (with_reducible repeat (first | refine blk_drewN ?_ _ | refine blk_drew ?_ | refine blk_alloc ?_ _)); refine blk_far ?_ NB452_490.out _; (with_reducible repeat (first | refine blk_drewN ?_ _ | refine blk_drew ?_ | refine blk_alloc ?_ _)); exact BK452.out) hb); have n3_ := Aside0.mk (blk_below (g := gb458) (o := .cells #[.bool t453, .bool t454, .bool t455, .bool t456] 59 (0, 0)) (by (with_reducible repeat (first | refine blk_drewN ?_ _ | refine blk_drew ?_ | refine blk_alloc ?_ _)); refine blk_far ?_ NB458_490.out _; (with_reducible repeat (first | refine blk_drewN ?_ _ | refine blk_drew ?_ | refine blk_alloc ?_ _)); refine blk_far ?_ NB458_490.out _; (with_reducible repeat (first | refine blk_drewN ?_ _ | refine blk_drew ?_ | refine blk_alloc ?_ _)); refine blk_far ?_ NB458_490.out _; (with_reducible repeat (first | refine blk_drewN ?_ _ | refine blk_drew ?_ | refine blk_alloc ?_ _)); refine blk_far ?_ NB458_490.out _; (with_reducible repeat (first | refine blk_drewN ?_ _ | refine blk_drew ?_ | refine blk_alloc ?_ _)); exact BK458.out) hb); have n4_ := Aside0.mk (blk_below (g := gb464) (o := .cells #[.bool t459, .bool t460, .bool t461, .bool t462] 59 (0, 0)) (by (with_reducible repeat (first | refine blk_drewN ?_ _ | refine blk_drew ?_ | refine blk_alloc ?_ _)); refine blk_far ?_ NB464_490.out _; (with_reducible repeat (first | refine blk_drewN ?_ _ | refine blk_drew ?_ | refine blk_alloc ?_ _)); refine blk_far ?_ NB464_490.out _; (with_reducible repeat (first | refine blk_drewN ?_ _ | refine blk_drew ?_ | refine blk_alloc ?_ _)); refine blk_far ?_ NB464_490.out _; (with_reducible repeat (first | refine blk_drewN ?_ _ | refine blk_drew ?_ | refine blk_alloc ?_ _)); refine blk_far ?_ NB464_490.out _; (with_reducible repeat (first | refine blk_drewN ?_ _ | refine blk_drew ?_ | refine blk_alloc ?_ _)); exact BK464.out) hb); have n5_ := Aside0.mk (blk_below (g := gb476) (o := .cells #[.bool t471, .bool t472, .bool t473, .bool t474] 59 (0, 0)) (by (with_reducible repeat (first | refine blk_drewN ?_ _ | refine blk_drew ?_ | refine blk_alloc ?_ _)); refine blk_far ?_ NB476_490.out _; (with_reducible repeat (first | refine blk_drewN ?_ _ | refine blk_drew ?_ | refine blk_alloc ?_ _)); refine blk_far ?_ NB476_490.out _; (with_reducible repeat (first | refine blk_drewN ?_ _ | refine blk_drew ?_ | refine blk_alloc ?_ _)); refine blk_far ?_ NB476_490.out _; (with_reducible repeat (first | refine blk_drewN ?_ _ | refine blk_drew ?_ | refine blk_alloc ?_ _)); refine blk_far ?_ NB476_490.out _; (with_reducible repeat (first | refine blk_drewN ?_ _ | refine blk_drew ?_ | refine blk_alloc ?_ _)); exact BK476.out) hb); have n6_ := Aside0.mk (blk_below (g := gb490) (o := .cells #[.bool t485, .bool t486, .bool t487, .bool t488] 59 (0, 0)) (by (with_reducible repeat (first | refine blk_drewN ?_ _ | refine blk_drew ?_ | refine blk_alloc ?_ _)); refine blk_put (cs := #[.bool t485, .bool t486, .bool t487, .bool false]) ?_ 3 _ rfl; (with_reducible repeat (first | refine blk_drewN ?_ _ | refine blk_drew ?_ | refine blk_alloc ?_ _)); refine blk_put (cs := #[.bool t485, .bool t486, .bool false, .bool false]) ?_ 2 _ rfl; (with_reducible repeat (first | refine blk_drewN ?_ _ | refine blk_drew ?_ | refine blk_alloc ?_ _)); refine blk_put (cs := #[.bool t485, .bool false, .bool false, .bool false]) ?_ 1 _ rfl; (with_reducible repeat (first | refine blk_drewN ?_ _ | refine blk_drew ?_ | refine blk_alloc ?_ _)); refine blk_put (cs := #[.bool false, .bool false, .bool false, .bool false]) ?_ 0 _ rfl; (with_reducible repeat (first | refine blk_drewN ?_ _ | refine blk_drew ?_ | refine blk_alloc ?_ _)); exact BK490.out) hb); have n7_ := Aside0.mk (below_step bw hb); clear HO_4 HO_11 BK452 BK458 BK464 BK476 BK490 HB; have HO_4 := n0_; have HO_11 := n1_; have BK452 := n2_; have BK458 := n3_; have BK464 := n4_; have BK476 := n5_; have BK490 := n6_; have HB := n7_; clear n0_ n1_ n2_ n3_ n4_ n5_ n6_ n7_; (try clear hb); (try clear hb2); (try clear hk); (try clear hi); have hcz120_0 : w119.cell? ⟨gb490, 0, none⟩ = some (.bool t485) := (blk_cell BK490.out 0).trans rfl; have hcz120_1 : w119.cell? ⟨gb490, 1, none⟩ = some (.bool t486) := (blk_cell BK490.out 1).trans rfl; have hcz120_2 : w119.cell? ⟨gb490, 2, none⟩ = some (.bool t487) := (blk_cell BK490.out 2).trans rfl; have hcz120_3 : w119.cell? ⟨gb490, 3, none⟩ = some (.bool t488) := (blk_cell BK490.out 3).trans rfl; have hfz120_0 := blk_frozen BK490.out 0; have hfz120_1 := blk_frozen BK490.out 1; have hfz120_2 := blk_frozen BK490.out 2; have hfz120_3 := blk_frozen BK490.out 3; have hcz121_0 : w119.cell? ⟨gb452, 0, none⟩ = some (.bool t445) := (blk_cell BK452.out 0).trans rfl; have hcz121_1 : w119.cell? ⟨gb452, 1, none⟩ = some (.bool t446) := (blk_cell BK452.out 1).trans rfl; have hcz121_2 : w119.cell? ⟨gb452, 2, none⟩ = some (.bool t447) := (blk_cell BK452.out 2).trans rfl; have hcz121_3 : w119.cell? ⟨gb452, 3, none⟩ = some (.bool t448) := (blk_cell BK452.out 3).trans rfl; have hfz121_0 := blk_frozen BK452.out 0; have hfz121_1 := blk_frozen BK452.out 1; have hfz121_2 := blk_frozen BK452.out 2; have hfz121_3 := blk_frozen BK452.out 3; have TK3_ := Aside0.mk trivial))
                  go_ret
                  exact ⟨by first | rfl | (simp [errW_none, errW_some] <;> rfl) | (simp [*, errW_none, errW_some] <;> rfl), bw⟩
                ·rw [if_neg c76] at H
                 have c76b0 : (t485 == t445 && (t486 == t446 && (t487 == t447 && (t488 == t448)))) = false := by simpa using c76
                 (try (have c76b1 : decide (t485 = t445 && (t486 == t446 && (t487 == t447 && (t488 == t448)))) = false := by simpa using c76))
                 (try (have c76b2 : (t485 == t445 && (t486 == t446 && (t487 == t447 && (t488 == t448)))) = false := by simpa using c76))
                 (try (have c76b3 : ¬ (t485 = t445 && (t486 == t446 && (t487 == t447 && (t488 == t448)))) := by simpa using c76))
                 clear c76
                 obtain rfl := Option.some.inj H
                 have hnb122 := NB458_452.out
                 have hnc122 := NB452_458.out
                 have hnb123 := NB458_464.out
                 have hnc123 := NB464_458.out
                 have hnb124 := NB458_476.out
                 have hnc124 := NB476_458.out
                 have hcz125_0 : wr.cell? ⟨gb458, 0, none⟩ = some (.bool t453) := (blk_cell BK458.out 0).trans rfl
                 have hcz125_1 : wr.cell? ⟨gb458, 1, none⟩ = some (.bool t454) := (blk_cell BK458.out 1).trans rfl
                 have hcz125_2 : wr.cell? ⟨gb458, 2, none⟩ = some (.bool t455) := (blk_cell BK458.out 2).trans rfl
                 have hcz125_3 : wr.cell? ⟨gb458, 3, none⟩ = some (.bool t456) := (blk_cell BK458.out 3).trans rfl
                 have hfz125_0 := blk_frozen BK458.out 0
                 have hfz125_1 := blk_frozen BK458.out 1
                 have hfz125_2 := blk_frozen BK458.out 2
                 have hfz125_3 := blk_frozen BK458.out 3
                 obtain ⟨Ao126, co126, eo126⟩ := Kd.R_slice HO_11.out
                 subst eo126
                 have TK0_ := Aside0.mk trivial
                 go_wp2_with (first | (clear TK0_; (with_reducible refine gate_callee (f := 65) rfl ?_); refine goesL_ (some 93) rfl rfl Tryd.func65 (by kernel_rfl) rfl #[.agg #[.bool t453, .bool t454, .bool t455, .bool t456], .slice Ao126 x11_3.length co126] rfl (by (try simp only [List.map_toArray, List.map_cons, List.map_nil]); first | done | rfl | (simp only [List.length_drop, List.length_take]; rfl)) ?_; (with_reducible refine (impl_BayRun.calls k3 t453 t454 t455 t456 _ _ x11_3 t485 t486 t487 t488 t489 _ ?side1 ?side2 A71.out).mono ?_); (case side1 => repeat (first | exact (Kd.R_reads' HO_11.out).2.2 | (with_reducible refine Kd.C_alloc ?_ _) | (with_reducible refine Kd.C_drewN ?_ _) | (with_reducible refine Kd.C_drew ?_))); (case side2 => exact (Kd.R_reads' HO_11.out).2.1); rintro e w127 ⟨rfl, hb⟩; refine ⟨_, rfl, ?_⟩; have n0_ := rB HO_4 hb; have n1_ := rB HO_11 hb; have n2_ := bkB BK452 hb; have n3_ := bkB BK458 hb; have n4_ := bkB BK464 hb; have n5_ := bkB BK476 hb; have n6_ := Aside0.mk (below_step bw hb); clear HO_4 HO_11 BK452 BK458 BK464 BK476 HB; have HO_4 := n0_; have HO_11 := n1_; have BK452 := n2_; have BK458 := n3_; have BK464 := n4_; have BK476 := n5_; have HB := n6_; clear n0_ n1_ n2_ n3_ n4_ n5_ n6_; (try clear hb); (try clear hb2); (try clear hk); (try clear hi); have TK1_ := Aside0.mk trivial) | (clear TK1_; (with_reducible refine gate_dst (N := 13) rfl ?_); (try (refine gate_guard (by rfl) ?_; dsimp only)); refine box_event ?hg (N := 13) ?hd (cs := #[.bool false, .bool false, .bool false, .bool false]) (t := 59) ?hr ?_; (case hd => rfl); (case hg => rfl); (case hr => first | (go_simp; done) | (go_simp; rfl)); intro gb490 hg w128 hbox hb; have n0_ := rB HO_4 hb; have n1_ := rB HO_11 hb; have n2_ := bkB BK452 hb; have n3_ := bkB BK458 hb; have n4_ := bkB BK464 hb; have n5_ := bkB BK476 hb; have n6_ := Aside0.mk (below_step bw hb); have n7_ := Aside0.mk (hbox); have n8_ := Aside0.mk ((by rw [hg]; exact (below_size bw) : w.heap.size ≤ gb490)); have n9_ := Aside0.mk ((by rw [hg]; exact (below_size bw) : w.heap.size ≤ gb490)); have n10_ := Aside0.mk ((by rw [hg]; exact Nat.ne_of_lt (blk_lt (g := gb452) (o := .cells #[.bool t445, .bool t446, .bool t447, .bool t448] 59 (0, 0)) (bk BK452)) : gb452 ≠ gb490)); have n11_ := Aside0.mk ((by rw [hg]; exact Nat.ne_of_gt (blk_lt (g := gb452) (o := .cells #[.bool t445, .bool t446, .bool t447, .bool t448] 59 (0, 0)) (bk BK452)) : gb490 ≠ gb452)); have n12_ := Aside0.mk ((by rw [hg]; exact Nat.ne_of_lt (blk_lt (g := gb458) (o := .cells #[.bool t453, .bool t454, .bool t455, .bool t456] 59 (0, 0)) (bk BK458)) : gb458 ≠ gb490)); have n13_ := Aside0.mk ((by rw [hg]; exact Nat.ne_of_gt (blk_lt (g := gb458) (o := .cells #[.bool t453, .bool t454, .bool t455, .bool t456] 59 (0, 0)) (bk BK458)) : gb490 ≠ gb458)); have n14_ := Aside0.mk ((by rw [hg]; exact Nat.ne_of_lt (blk_lt (g := gb464) (o := .cells #[.bool t459, .bool t460, .bool t461, .bool t462] 59 (0, 0)) (bk BK464)) : gb464 ≠ gb490)); have n15_ := Aside0.mk ((by rw [hg]; exact Nat.ne_of_gt (blk_lt (g := gb464) (o := .cells #[.bool t459, .bool t460, .bool t461, .bool t462] 59 (0, 0)) (bk BK464)) : gb490 ≠ gb464)); have n16_ := Aside0.mk ((by rw [hg]; exact Nat.ne_of_lt (blk_lt (g := gb476) (o := .cells #[.bool t471, .bool t472, .bool t473, .bool t474] 59 (0, 0)) (bk BK476)) : gb476 ≠ gb490)); have n17_ := Aside0.mk ((by rw [hg]; exact Nat.ne_of_gt (blk_lt (g := gb476) (o := .cells #[.bool t471, .bool t472, .bool t473, .bool t474] 59 (0, 0)) (bk BK476)) : gb490 ≠ gb476)); clear HO_4 HO_11 BK452 BK458 BK464 BK476 HB; have HO_4 := n0_; have HO_11 := n1_; have BK452 := n2_; have BK458 := n3_; have BK464 := n4_; have BK476 := n5_; have HB := n6_; have BK490 := n7_; have GW490 := n8_; have GE490 := n9_; have NB452_490 := n10_; have NB490_452 := n11_; have NB458_490 := n12_; have NB490_458 := n13_; have NB464_490 := n14_; have NB490_464 := n15_; have NB476_490 := n16_; have NB490_476 := n17_; clear n0_ n1_ n2_ n3_ n4_ n5_ n6_ n7_ n8_ n9_ n10_ n11_ n12_ n13_ n14_ n15_ n16_ n17_; clear hb hbox hg; have hnb129 := NB490_452.out; have hnc129 := NB452_490.out; have hnb130 := NB490_458.out; have hnc130 := NB458_490.out; have hnb131 := NB490_464.out; have hnc131 := NB464_490.out; have hnb132 := NB490_476.out; have hnc132 := NB476_490.out; have hcz133_0 : w128.cell? ⟨gb490, 0, none⟩ = some (.bool false) := (blk_cell BK490.out 0).trans rfl; have hcz133_1 : w128.cell? ⟨gb490, 1, none⟩ = some (.bool false) := (blk_cell BK490.out 1).trans rfl; have hcz133_2 : w128.cell? ⟨gb490, 2, none⟩ = some (.bool false) := (blk_cell BK490.out 2).trans rfl; have hcz133_3 : w128.cell? ⟨gb490, 3, none⟩ = some (.bool false) := (blk_cell BK490.out 3).trans rfl; have hfz133_0 := blk_frozen BK490.out 0; have hfz133_1 := blk_frozen BK490.out 1; have hfz133_2 := blk_frozen BK490.out 2; have hfz133_3 := blk_frozen BK490.out 3; have hnb134 := NB476_452.out; have hnc134 := NB452_476.out; have hnb135 := NB476_464.out; have hnc135 := NB464_476.out; have hcz136_0 : w128.cell? ⟨gb476, 0, none⟩ = some (.bool t471) := (blk_cell BK476.out 0).trans rfl; have hcz136_1 : w128.cell? ⟨gb476, 1, none⟩ = some (.bool t472) := (blk_cell BK476.out 1).trans rfl; have hcz136_2 : w128.cell? ⟨gb476, 2, none⟩ = some (.bool t473) := (blk_cell BK476.out 2).trans rfl; have hcz136_3 : w128.cell? ⟨gb476, 3, none⟩ = some (.bool t474) := (blk_cell BK476.out 3).trans rfl; have hfz136_0 := blk_frozen BK476.out 0; have hfz136_1 := blk_frozen BK476.out 1; have hfz136_2 := blk_frozen BK476.out 2; have hfz136_3 := blk_frozen BK476.out 3; have hcz137_0 : w128.cell? ⟨gb458, 0, none⟩ = some (.bool t453) := (blk_cell BK458.out 0).trans rfl; have hcz137_1 : w128.cell? ⟨gb458, 1, none⟩ = some (.bool t454) := (blk_cell BK458.out 1).trans rfl; have hcz137_2 : w128.cell? ⟨gb458, 2, none⟩ = some (.bool t455) := (blk_cell BK458.out 2).trans rfl; have hcz137_3 : w128.cell? ⟨gb458, 3, none⟩ = some (.bool t456) := (blk_cell BK458.out 3).trans rfl; have hfz137_0 := blk_frozen BK458.out 0; have hfz137_1 := blk_frozen BK458.out 1; have hfz137_2 := blk_frozen BK458.out 2; have hfz137_3 := blk_frozen BK458.out 3; have hnb138 := NB452_464.out; have hnc138 := NB464_452.out; have hcz139_0 : w128.cell? ⟨gb452, 0, none⟩ = some (.bool t445) := (blk_cell BK452.out 0).trans rfl; have hcz139_1 : w128.cell? ⟨gb452, 1, none⟩ = some (.bool t446) := (blk_cell BK452.out 1).trans rfl; have hcz139_2 : w128.cell? ⟨gb452, 2, none⟩ = some (.bool t447) := (blk_cell BK452.out 2).trans rfl; have hcz139_3 : w128.cell? ⟨gb452, 3, none⟩ = some (.bool t448) := (blk_cell BK452.out 3).trans rfl; have hfz139_0 := blk_frozen BK452.out 0; have hfz139_1 := blk_frozen BK452.out 1; have hfz139_2 := blk_frozen BK452.out 2; have hfz139_3 := blk_frozen BK452.out 3; have TK2_ := Aside0.mk trivial) | (clear TK2_; go_at_call 43; (with_reducible refine (impl_BaySafe.calls t445 t446 t447 t448 true _ A74.out).mono ?_); rintro e w140 ⟨rfl, hb⟩; have n0_ := Aside0.mk (Kd.R_below (by (with_reducible repeat (first | apply Kd.R_alloc | apply Kd.R_drewN | apply Kd.R_drew)); exact (Kd.R_mono (Kd.R_far (p := ⟨gb490, 3, none⟩) (Kd.R_far (p := ⟨gb490, 2, none⟩) (Kd.R_far (p := ⟨gb490, 1, none⟩) (Kd.R_far (p := ⟨gb490, 0, none⟩) (Kd.R_types HO_4.out BK490.out (by decide)) (fun _ hk => by first | exact hk.2 | grind) (.bool t485)) (fun _ hk => by first | exact hk.2 | grind) (.bool t486)) (fun _ hk => by first | exact hk.2 | grind) (.bool t487)) (fun _ hk => by first | exact hk.2 | grind) (.bool t488)) (fun _ h_ => h_.1))) hb); have n1_ := Aside0.mk (Kd.R_below (by (with_reducible repeat (first | apply Kd.R_alloc | apply Kd.R_drewN | apply Kd.R_drew)); exact (Kd.R_mono (Kd.R_far (p := ⟨gb490, 3, none⟩) (Kd.R_far (p := ⟨gb490, 2, none⟩) (Kd.R_far (p := ⟨gb490, 1, none⟩) (Kd.R_far (p := ⟨gb490, 0, none⟩) (Kd.R_types HO_11.out BK490.out (by decide)) (fun _ hk => by first | exact hk.2 | grind) (.bool t485)) (fun _ hk => by first | exact hk.2 | grind) (.bool t486)) (fun _ hk => by first | exact hk.2 | grind) (.bool t487)) (fun _ hk => by first | exact hk.2 | grind) (.bool t488)) (fun _ h_ => h_.1))) hb); have n2_ := Aside0.mk (blk_below (g := gb452) (o := .cells #[.bool t445, .bool t446, .bool t447, .bool t448] 59 (0, 0)) (by (with_reducible repeat (first | refine blk_drewN ?_ _ | refine blk_drew ?_ | refine blk_alloc ?_ _)); refine blk_far ?_ NB452_490.out _; (with_reducible repeat (first | refine blk_drewN ?_ _ | refine blk_drew ?_ | refine blk_alloc ?_ _)); refine blk_far ?_ NB452_490.out _; (with_reducible repeat (first | refine blk_drewN ?_ _ | refine blk_drew ?_ | refine blk_alloc ?_ _)); refine blk_far ?_ NB452_490.out _; (with_reducible repeat (first | refine blk_drewN ?_ _ | refine blk_drew ?_ | refine blk_alloc ?_ _)); refine blk_far ?_ NB452_490.out _; (with_reducible repeat (first | refine blk_drewN ?_ _ | refine blk_drew ?_ | refine blk_alloc ?_ _)); exact BK452.out) hb); have n3_ := Aside0.mk (blk_below (g := gb458) (o := .cells #[.bool t453, .bool t454, .bool t455, .bool t456] 59 (0, 0)) (by (with_reducible repeat (first | refine blk_drewN ?_ _ | refine blk_drew ?_ | refine blk_alloc ?_ _)); refine blk_far ?_ NB458_490.out _; (with_reducible repeat (first | refine blk_drewN ?_ _ | refine blk_drew ?_ | refine blk_alloc ?_ _)); refine blk_far ?_ NB458_490.out _; (with_reducible repeat (first | refine blk_drewN ?_ _ | refine blk_drew ?_ | refine blk_alloc ?_ _)); refine blk_far ?_ NB458_490.out _; (with_reducible repeat (first | refine blk_drewN ?_ _ | refine blk_drew ?_ | refine blk_alloc ?_ _)); refine blk_far ?_ NB458_490.out _; (with_reducible repeat (first | refine blk_drewN ?_ _ | refine blk_drew ?_ | refine blk_alloc ?_ _)); exact BK458.out) hb); have n4_ := Aside0.mk (blk_below (g := gb464) (o := .cells #[.bool t459, .bool t460, .bool t461, .bool t462] 59 (0, 0)) (by (with_reducible repeat (first | refine blk_drewN ?_ _ | refine blk_drew ?_ | refine blk_alloc ?_ _)); refine blk_far ?_ NB464_490.out _; (with_reducible repeat (first | refine blk_drewN ?_ _ | refine blk_drew ?_ | refine blk_alloc ?_ _)); refine blk_far ?_ NB464_490.out _; (with_reducible repeat (first | refine blk_drewN ?_ _ | refine blk_drew ?_ | refine blk_alloc ?_ _)); refine blk_far ?_ NB464_490.out _; (with_reducible repeat (first | refine blk_drewN ?_ _ | refine blk_drew ?_ | refine blk_alloc ?_ _)); refine blk_far ?_ NB464_490.out _; (with_reducible repeat (first | refine blk_drewN ?_ _ | refine blk_drew ?_ | refine blk_alloc ?_ _)); exact BK464.out) hb); have n5_ := Aside0.mk (blk_below (g := gb476) (o := .cells #[.bool t471, .bool t472, .bool t473, .bool t474] 59 (0, 0)) (by (with_reducible repeat (first | refine blk_drewN ?_ _ | refine blk_drew ?_ | refine blk_alloc ?_ _)); refine blk_far ?_ NB476_490.out _; (with_reducible repeat (first | refine blk_drewN ?_ _ | refine blk_drew ?_ | refine blk_alloc ?_ _)); refine blk_far ?_ NB476_490.out _; (with_reducible repeat (first | refine blk_drewN ?_ _ | refine blk_drew ?_ | refine blk_alloc ?_ _)); refine blk_far ?_ NB476_490.out _; (with_reducible repeat (first | refine blk_drewN ?_ _ | refine blk_drew ?_ | refine blk_alloc ?_ _)); refine blk_far ?_ NB476_490.out _; (with_reducible repeat (first | refine blk_drewN ?_ _ | refine blk_drew ?_ | refine blk_alloc ?_ _)); exact BK476.out) hb); have n6_ := Aside0.mk (blk_below (g := gb490) (o := .cells #[.bool t485, .bool t486, .bool t487, .bool t488] 59 (0, 0)) (by (with_reducible repeat (first | refine blk_drewN ?_ _ | refine blk_drew ?_ | refine blk_alloc ?_ _)); refine blk_put (cs := #[.bool t485, .bool t486, .bool t487, .bool false]) ?_ 3 _ rfl; (with_reducible repeat (first | refine blk_drewN ?_ _ | refine blk_drew ?_ | refine blk_alloc ?_ _)); refine blk_put (cs := #[.bool t485, .bool t486, .bool false, .bool false]) ?_ 2 _ rfl; (with_reducible repeat (first | refine blk_drewN ?_ _ | refine blk_drew ?_ | refine blk_alloc ?_ _)); refine blk_put (cs := #[.bool t485, .bool false, .bool false, .bool false]) ?_ 1 _ rfl; (with_reducible repeat (first | refine blk_drewN ?_ _ | refine blk_drew ?_ | refine blk_alloc ?_ _)); refine blk_put (cs := #[.bool false, .bool false, .bool false, .bool false]) ?_ 0 _ rfl; (with_reducible repeat (first | refine blk_drewN ?_ _ | refine blk_drew ?_ | refine blk_alloc ?_ _)); exact BK490.out) hb); have n7_ := Aside0.mk (below_step bw hb); clear HO_4 HO_11 BK452 BK458 BK464 BK476 BK490 HB; have HO_4 := n0_; have HO_11 := n1_; have BK452 := n2_; have BK458 := n3_; have BK464 := n4_; have BK476 := n5_; have BK490 := n6_; have HB := n7_; clear n0_ n1_ n2_ n3_ n4_ n5_ n6_ n7_; (try clear hb); (try clear hb2); (try clear hk); (try clear hi); have hcz141_0 : w140.cell? ⟨gb490, 0, none⟩ = some (.bool t485) := (blk_cell BK490.out 0).trans rfl; have hcz141_1 : w140.cell? ⟨gb490, 1, none⟩ = some (.bool t486) := (blk_cell BK490.out 1).trans rfl; have hcz141_2 : w140.cell? ⟨gb490, 2, none⟩ = some (.bool t487) := (blk_cell BK490.out 2).trans rfl; have hcz141_3 : w140.cell? ⟨gb490, 3, none⟩ = some (.bool t488) := (blk_cell BK490.out 3).trans rfl; have hfz141_0 := blk_frozen BK490.out 0; have hfz141_1 := blk_frozen BK490.out 1; have hfz141_2 := blk_frozen BK490.out 2; have hfz141_3 := blk_frozen BK490.out 3; have hcz142_0 : w140.cell? ⟨gb452, 0, none⟩ = some (.bool t445) := (blk_cell BK452.out 0).trans rfl; have hcz142_1 : w140.cell? ⟨gb452, 1, none⟩ = some (.bool t446) := (blk_cell BK452.out 1).trans rfl; have hcz142_2 : w140.cell? ⟨gb452, 2, none⟩ = some (.bool t447) := (blk_cell BK452.out 2).trans rfl; have hcz142_3 : w140.cell? ⟨gb452, 3, none⟩ = some (.bool t448) := (blk_cell BK452.out 3).trans rfl; have hfz142_0 := blk_frozen BK452.out 0; have hfz142_1 := blk_frozen BK452.out 1; have hfz142_2 := blk_frozen BK452.out 2; have hfz142_3 := blk_frozen BK452.out 3; have TK3_ := Aside0.mk trivial))
                 go_ret
                 exact ⟨by first | rfl | (simp [errW_none, errW_some] <;> rfl) | (simp [*, errW_none, errW_some] <;> rfl), bw⟩
               ·replace c75 := Bool.eq_false_iff.mpr c75
                subst c75
                have H1 : ((laws_alive.f k3).bind fun t493 => (some t493)) = some r := by rw [if_neg (show ¬ (false = true) by decide)] at H; exact H
                clear H
                have H := H1
                clear H1
                replace H := Option.bind_eq_some_iff.mp H
                obtain ⟨t493, A1430, H⟩ := H
                replace H : (some t493) = some r := H
                have A143 := Aside0.mk A1430
                clear A1430
                obtain rfl := Option.some.inj H
                have hnb144 := NB458_452.out
                have hnc144 := NB452_458.out
                have hnb145 := NB458_464.out
                have hnc145 := NB464_458.out
                have hnb146 := NB458_476.out
                have hnc146 := NB476_458.out
                have hcz147_0 : wr.cell? ⟨gb458, 0, none⟩ = some (.bool t453) := (blk_cell BK458.out 0).trans rfl
                have hcz147_1 : wr.cell? ⟨gb458, 1, none⟩ = some (.bool t454) := (blk_cell BK458.out 1).trans rfl
                have hcz147_2 : wr.cell? ⟨gb458, 2, none⟩ = some (.bool t455) := (blk_cell BK458.out 2).trans rfl
                have hcz147_3 : wr.cell? ⟨gb458, 3, none⟩ = some (.bool t456) := (blk_cell BK458.out 3).trans rfl
                have hfz147_0 := blk_frozen BK458.out 0
                have hfz147_1 := blk_frozen BK458.out 1
                have hfz147_2 := blk_frozen BK458.out 2
                have hfz147_3 := blk_frozen BK458.out 3
                obtain ⟨Ao148, co148, eo148⟩ := Kd.R_slice HO_11.out
                subst eo148
                have TK0_ := Aside0.mk trivial
                go_wp2_with (first | (clear TK0_; (with_reducible refine gate_callee (f := 65) rfl ?_); refine goesL_ (some 93) rfl rfl Tryd.func65 (by kernel_rfl) rfl #[.agg #[.bool t453, .bool t454, .bool t455, .bool t456], .slice Ao148 x11_3.length co148] rfl (by (try simp only [List.map_toArray, List.map_cons, List.map_nil]); first | done | rfl | (simp only [List.length_drop, List.length_take]; rfl)) ?_; (with_reducible refine (impl_BayRun.calls k3 t453 t454 t455 t456 _ _ x11_3 t485 t486 t487 t488 t489 _ ?side1 ?side2 A71.out).mono ?_); (case side1 => repeat (first | exact (Kd.R_reads' HO_11.out).2.2 | (with_reducible refine Kd.C_alloc ?_ _) | (with_reducible refine Kd.C_drewN ?_ _) | (with_reducible refine Kd.C_drew ?_))); (case side2 => exact (Kd.R_reads' HO_11.out).2.1); rintro e w149 ⟨rfl, hb⟩; refine ⟨_, rfl, ?_⟩; have n0_ := rB HO_4 hb; have n1_ := rB HO_11 hb; have n2_ := bkB BK452 hb; have n3_ := bkB BK458 hb; have n4_ := bkB BK464 hb; have n5_ := bkB BK476 hb; have n6_ := Aside0.mk (below_step bw hb); clear HO_4 HO_11 BK452 BK458 BK464 BK476 HB; have HO_4 := n0_; have HO_11 := n1_; have BK452 := n2_; have BK458 := n3_; have BK464 := n4_; have BK476 := n5_; have HB := n6_; clear n0_ n1_ n2_ n3_ n4_ n5_ n6_; (try clear hb); (try clear hb2); (try clear hk); (try clear hi); have TK1_ := Aside0.mk trivial) | (clear TK1_; (with_reducible refine gate_dst (N := 13) rfl ?_); (try (refine gate_guard (by rfl) ?_; dsimp only)); refine box_event ?hg (N := 13) ?hd (cs := #[.bool false, .bool false, .bool false, .bool false]) (t := 59) ?hr ?_; (case hd => rfl); (case hg => rfl); (case hr => first | (go_simp; done) | (go_simp; rfl)); intro gb490 hg w150 hbox hb; have n0_ := rB HO_4 hb; have n1_ := rB HO_11 hb; have n2_ := bkB BK452 hb; have n3_ := bkB BK458 hb; have n4_ := bkB BK464 hb; have n5_ := bkB BK476 hb; have n6_ := Aside0.mk (below_step bw hb); have n7_ := Aside0.mk (hbox); have n8_ := Aside0.mk ((by rw [hg]; exact (below_size bw) : w.heap.size ≤ gb490)); have n9_ := Aside0.mk ((by rw [hg]; exact (below_size bw) : w.heap.size ≤ gb490)); have n10_ := Aside0.mk ((by rw [hg]; exact Nat.ne_of_lt (blk_lt (g := gb452) (o := .cells #[.bool t445, .bool t446, .bool t447, .bool t448] 59 (0, 0)) (bk BK452)) : gb452 ≠ gb490)); have n11_ := Aside0.mk ((by rw [hg]; exact Nat.ne_of_gt (blk_lt (g := gb452) (o := .cells #[.bool t445, .bool t446, .bool t447, .bool t448] 59 (0, 0)) (bk BK452)) : gb490 ≠ gb452)); have n12_ := Aside0.mk ((by rw [hg]; exact Nat.ne_of_lt (blk_lt (g := gb458) (o := .cells #[.bool t453, .bool t454, .bool t455, .bool t456] 59 (0, 0)) (bk BK458)) : gb458 ≠ gb490)); have n13_ := Aside0.mk ((by rw [hg]; exact Nat.ne_of_gt (blk_lt (g := gb458) (o := .cells #[.bool t453, .bool t454, .bool t455, .bool t456] 59 (0, 0)) (bk BK458)) : gb490 ≠ gb458)); have n14_ := Aside0.mk ((by rw [hg]; exact Nat.ne_of_lt (blk_lt (g := gb464) (o := .cells #[.bool t459, .bool t460, .bool t461, .bool t462] 59 (0, 0)) (bk BK464)) : gb464 ≠ gb490)); have n15_ := Aside0.mk ((by rw [hg]; exact Nat.ne_of_gt (blk_lt (g := gb464) (o := .cells #[.bool t459, .bool t460, .bool t461, .bool t462] 59 (0, 0)) (bk BK464)) : gb490 ≠ gb464)); have n16_ := Aside0.mk ((by rw [hg]; exact Nat.ne_of_lt (blk_lt (g := gb476) (o := .cells #[.bool t471, .bool t472, .bool t473, .bool t474] 59 (0, 0)) (bk BK476)) : gb476 ≠ gb490)); have n17_ := Aside0.mk ((by rw [hg]; exact Nat.ne_of_gt (blk_lt (g := gb476) (o := .cells #[.bool t471, .bool t472, .bool t473, .bool t474] 59 (0, 0)) (bk BK476)) : gb490 ≠ gb476)); clear HO_4 HO_11 BK452 BK458 BK464 BK476 HB; have HO_4 := n0_; have HO_11 := n1_; have BK452 := n2_; have BK458 := n3_; have BK464 := n4_; have BK476 := n5_; have HB := n6_; have BK490 := n7_; have GW490 := n8_; have GE490 := n9_; have NB452_490 := n10_; have NB490_452 := n11_; have NB458_490 := n12_; have NB490_458 := n13_; have NB464_490 := n14_; have NB490_464 := n15_; have NB476_490 := n16_; have NB490_476 := n17_; clear n0_ n1_ n2_ n3_ n4_ n5_ n6_ n7_ n8_ n9_ n10_ n11_ n12_ n13_ n14_ n15_ n16_ n17_; clear hb hbox hg; have hnb151 := NB490_452.out; have hnc151 := NB452_490.out; have hnb152 := NB490_458.out; have hnc152 := NB458_490.out; have hnb153 := NB490_464.out; have hnc153 := NB464_490.out; have hnb154 := NB490_476.out; have hnc154 := NB476_490.out; have hcz155_0 : w150.cell? ⟨gb490, 0, none⟩ = some (.bool false) := (blk_cell BK490.out 0).trans rfl; have hcz155_1 : w150.cell? ⟨gb490, 1, none⟩ = some (.bool false) := (blk_cell BK490.out 1).trans rfl; have hcz155_2 : w150.cell? ⟨gb490, 2, none⟩ = some (.bool false) := (blk_cell BK490.out 2).trans rfl; have hcz155_3 : w150.cell? ⟨gb490, 3, none⟩ = some (.bool false) := (blk_cell BK490.out 3).trans rfl; have hfz155_0 := blk_frozen BK490.out 0; have hfz155_1 := blk_frozen BK490.out 1; have hfz155_2 := blk_frozen BK490.out 2; have hfz155_3 := blk_frozen BK490.out 3; have hnb156 := NB476_452.out; have hnc156 := NB452_476.out; have hnb157 := NB476_464.out; have hnc157 := NB464_476.out; have hcz158_0 : w150.cell? ⟨gb476, 0, none⟩ = some (.bool t471) := (blk_cell BK476.out 0).trans rfl; have hcz158_1 : w150.cell? ⟨gb476, 1, none⟩ = some (.bool t472) := (blk_cell BK476.out 1).trans rfl; have hcz158_2 : w150.cell? ⟨gb476, 2, none⟩ = some (.bool t473) := (blk_cell BK476.out 2).trans rfl; have hcz158_3 : w150.cell? ⟨gb476, 3, none⟩ = some (.bool t474) := (blk_cell BK476.out 3).trans rfl; have hfz158_0 := blk_frozen BK476.out 0; have hfz158_1 := blk_frozen BK476.out 1; have hfz158_2 := blk_frozen BK476.out 2; have hfz158_3 := blk_frozen BK476.out 3; have hcz159_0 : w150.cell? ⟨gb458, 0, none⟩ = some (.bool t453) := (blk_cell BK458.out 0).trans rfl; have hcz159_1 : w150.cell? ⟨gb458, 1, none⟩ = some (.bool t454) := (blk_cell BK458.out 1).trans rfl; have hcz159_2 : w150.cell? ⟨gb458, 2, none⟩ = some (.bool t455) := (blk_cell BK458.out 2).trans rfl; have hcz159_3 : w150.cell? ⟨gb458, 3, none⟩ = some (.bool t456) := (blk_cell BK458.out 3).trans rfl; have hfz159_0 := blk_frozen BK458.out 0; have hfz159_1 := blk_frozen BK458.out 1; have hfz159_2 := blk_frozen BK458.out 2; have hfz159_3 := blk_frozen BK458.out 3; have hnb160 := NB452_464.out; have hnc160 := NB464_452.out; have hcz161_0 : w150.cell? ⟨gb452, 0, none⟩ = some (.bool t445) := (blk_cell BK452.out 0).trans rfl; have hcz161_1 : w150.cell? ⟨gb452, 1, none⟩ = some (.bool t446) := (blk_cell BK452.out 1).trans rfl; have hcz161_2 : w150.cell? ⟨gb452, 2, none⟩ = some (.bool t447) := (blk_cell BK452.out 2).trans rfl; have hcz161_3 : w150.cell? ⟨gb452, 3, none⟩ = some (.bool t448) := (blk_cell BK452.out 3).trans rfl; have hfz161_0 := blk_frozen BK452.out 0; have hfz161_1 := blk_frozen BK452.out 1; have hfz161_2 := blk_frozen BK452.out 2; have hfz161_3 := blk_frozen BK452.out 3; have TK2_ := Aside0.mk trivial) | (clear TK2_; go_at_call 43; (with_reducible refine (impl_BaySafe.calls t445 t446 t447 t448 false _ A74.out).mono ?_); rintro e w162 ⟨rfl, hb⟩; have n0_ := Aside0.mk (Kd.R_below (by (with_reducible repeat (first | apply Kd.R_alloc | apply Kd.R_drewN | apply Kd.R_drew)); exact (Kd.R_mono (Kd.R_far (p := ⟨gb490, 3, none⟩) (Kd.R_far (p := ⟨gb490, 2, none⟩) (Kd.R_far (p := ⟨gb490, 1, none⟩) (Kd.R_far (p := ⟨gb490, 0, none⟩) (Kd.R_types HO_4.out BK490.out (by decide)) (fun _ hk => by first | exact hk.2 | grind) (.bool t485)) (fun _ hk => by first | exact hk.2 | grind) (.bool t486)) (fun _ hk => by first | exact hk.2 | grind) (.bool t487)) (fun _ hk => by first | exact hk.2 | grind) (.bool t488)) (fun _ h_ => h_.1))) hb); have n1_ := Aside0.mk (Kd.R_below (by (with_reducible repeat (first | apply Kd.R_alloc | apply Kd.R_drewN | apply Kd.R_drew)); exact (Kd.R_mono (Kd.R_far (p := ⟨gb490, 3, none⟩) (Kd.R_far (p := ⟨gb490, 2, none⟩) (Kd.R_far (p := ⟨gb490, 1, none⟩) (Kd.R_far (p := ⟨gb490, 0, none⟩) (Kd.R_types HO_11.out BK490.out (by decide)) (fun _ hk => by first | exact hk.2 | grind) (.bool t485)) (fun _ hk => by first | exact hk.2 | grind) (.bool t486)) (fun _ hk => by first | exact hk.2 | grind) (.bool t487)) (fun _ hk => by first | exact hk.2 | grind) (.bool t488)) (fun _ h_ => h_.1))) hb); have n2_ := Aside0.mk (blk_below (g := gb452) (o := .cells #[.bool t445, .bool t446, .bool t447, .bool t448] 59 (0, 0)) (by (with_reducible repeat (first | refine blk_drewN ?_ _ | refine blk_drew ?_ | refine blk_alloc ?_ _)); refine blk_far ?_ NB452_490.out _; (with_reducible repeat (first | refine blk_drewN ?_ _ | refine blk_drew ?_ | refine blk_alloc ?_ _)); refine blk_far ?_ NB452_490.out _; (with_reducible repeat (first | refine blk_drewN ?_ _ | refine blk_drew ?_ | refine blk_alloc ?_ _)); refine blk_far ?_ NB452_490.out _; (with_reducible repeat (first | refine blk_drewN ?_ _ | refine blk_drew ?_ | refine blk_alloc ?_ _)); refine blk_far ?_ NB452_490.out _; (with_reducible repeat (first | refine blk_drewN ?_ _ | refine blk_drew ?_ | refine blk_alloc ?_ _)); exact BK452.out) hb); have n3_ := Aside0.mk (blk_below (g := gb458) (o := .cells #[.bool t453, .bool t454, .bool t455, .bool t456] 59 (0, 0)) (by (with_reducible repeat (first | refine blk_drewN ?_ _ | refine blk_drew ?_ | refine blk_alloc ?_ _)); refine blk_far ?_ NB458_490.out _; (with_reducible repeat (first | refine blk_drewN ?_ _ | refine blk_drew ?_ | refine blk_alloc ?_ _)); refine blk_far ?_ NB458_490.out _; (with_reducible repeat (first | refine blk_drewN ?_ _ | refine blk_drew ?_ | refine blk_alloc ?_ _)); refine blk_far ?_ NB458_490.out _; (with_reducible repeat (first | refine blk_drewN ?_ _ | refine blk_drew ?_ | refine blk_alloc ?_ _)); refine blk_far ?_ NB458_490.out _; (with_reducible repeat (first | refine blk_drewN ?_ _ | refine blk_drew ?_ | refine blk_alloc ?_ _)); exact BK458.out) hb); have n4_ := Aside0.mk (blk_below (g := gb464) (o := .cells #[.bool t459, .bool t460, .bool t461, .bool t462] 59 (0, 0)) (by (with_reducible repeat (first | refine blk_drewN ?_ _ | refine blk_drew ?_ | refine blk_alloc ?_ _)); refine blk_far ?_ NB464_490.out _; (with_reducible repeat (first | refine blk_drewN ?_ _ | refine blk_drew ?_ | refine blk_alloc ?_ _)); refine blk_far ?_ NB464_490.out _; (with_reducible repeat (first | refine blk_drewN ?_ _ | refine blk_drew ?_ | refine blk_alloc ?_ _)); refine blk_far ?_ NB464_490.out _; (with_reducible repeat (first | refine blk_drewN ?_ _ | refine blk_drew ?_ | refine blk_alloc ?_ _)); refine blk_far ?_ NB464_490.out _; (with_reducible repeat (first | refine blk_drewN ?_ _ | refine blk_drew ?_ | refine blk_alloc ?_ _)); exact BK464.out) hb); have n5_ := Aside0.mk (blk_below (g := gb476) (o := .cells #[.bool t471, .bool t472, .bool t473, .bool t474] 59 (0, 0)) (by (with_reducible repeat (first | refine blk_drewN ?_ _ | refine blk_drew ?_ | refine blk_alloc ?_ _)); refine blk_far ?_ NB476_490.out _; (with_reducible repeat (first | refine blk_drewN ?_ _ | refine blk_drew ?_ | refine blk_alloc ?_ _)); refine blk_far ?_ NB476_490.out _; (with_reducible repeat (first | refine blk_drewN ?_ _ | refine blk_drew ?_ | refine blk_alloc ?_ _)); refine blk_far ?_ NB476_490.out _; (with_reducible repeat (first | refine blk_drewN ?_ _ | refine blk_drew ?_ | refine blk_alloc ?_ _)); refine blk_far ?_ NB476_490.out _; (with_reducible repeat (first | refine blk_drewN ?_ _ | refine blk_drew ?_ | refine blk_alloc ?_ _)); exact BK476.out) hb); have n6_ := Aside0.mk (blk_below (g := gb490) (o := .cells #[.bool t485, .bool t486, .bool t487, .bool t488] 59 (0, 0)) (by (with_reducible repeat (first | refine blk_drewN ?_ _ | refine blk_drew ?_ | refine blk_alloc ?_ _)); refine blk_put (cs := #[.bool t485, .bool t486, .bool t487, .bool false]) ?_ 3 _ rfl; (with_reducible repeat (first | refine blk_drewN ?_ _ | refine blk_drew ?_ | refine blk_alloc ?_ _)); refine blk_put (cs := #[.bool t485, .bool t486, .bool false, .bool false]) ?_ 2 _ rfl; (with_reducible repeat (first | refine blk_drewN ?_ _ | refine blk_drew ?_ | refine blk_alloc ?_ _)); refine blk_put (cs := #[.bool t485, .bool false, .bool false, .bool false]) ?_ 1 _ rfl; (with_reducible repeat (first | refine blk_drewN ?_ _ | refine blk_drew ?_ | refine blk_alloc ?_ _)); refine blk_put (cs := #[.bool false, .bool false, .bool false, .bool false]) ?_ 0 _ rfl; (with_reducible repeat (first | refine blk_drewN ?_ _ | refine blk_drew ?_ | refine blk_alloc ?_ _)); exact BK490.out) hb); have n7_ := Aside0.mk (below_step bw hb); clear HO_4 HO_11 BK452 BK458 BK464 BK476 BK490 HB; have HO_4 := n0_; have HO_11 := n1_; have BK452 := n2_; have BK458 := n3_; have BK464 := n4_; have BK476 := n5_; have BK490 := n6_; have HB := n7_; clear n0_ n1_ n2_ n3_ n4_ n5_ n6_ n7_; (try clear hb); (try clear hb2); (try clear hk); (try clear hi); have TK3_ := Aside0.mk trivial) | (clear TK3_; go_at_call 21; (with_reducible refine (laws_alive.calls k3  t493 _ A143.out).mono ?_); rintro e w163 ⟨rfl, hb⟩; have n0_ := rB HO_4 hb; have n1_ := rB HO_11 hb; have n2_ := bkB BK452 hb; have n3_ := bkB BK458 hb; have n4_ := bkB BK464 hb; have n5_ := bkB BK476 hb; have n6_ := bkB BK490 hb; have n7_ := Aside0.mk (below_step bw hb); clear HO_4 HO_11 BK452 BK458 BK464 BK476 BK490 HB; have HO_4 := n0_; have HO_11 := n1_; have BK452 := n2_; have BK458 := n3_; have BK464 := n4_; have BK476 := n5_; have BK490 := n6_; have HB := n7_; clear n0_ n1_ n2_ n3_ n4_ n5_ n6_ n7_; (try clear hb); (try clear hb2); (try clear hk); (try clear hi); have TK4_ := Aside0.mk trivial))
                go_ret
                exact ⟨by first | rfl | (simp [errW_none, errW_some] <;> rfl) | (simp [*, errW_none, errW_some] <;> rfl), bw⟩
              ·rw [if_neg c73] at H
               have c73b0 : (t475 == t457) = false := beq_eq_false_iff_ne.mpr c73
               have c73b1 : (t475 != t457) = true := bne_iff_ne.mpr c73
               obtain rfl := Option.some.inj H
               have hnb164 := NB458_452.out
               have hnc164 := NB452_458.out
               have hnb165 := NB458_464.out
               have hnc165 := NB464_458.out
               have hnb166 := NB458_476.out
               have hnc166 := NB476_458.out
               have hcz167_0 : wr.cell? ⟨gb458, 0, none⟩ = some (.bool t453) := (blk_cell BK458.out 0).trans rfl
               have hcz167_1 : wr.cell? ⟨gb458, 1, none⟩ = some (.bool t454) := (blk_cell BK458.out 1).trans rfl
               have hcz167_2 : wr.cell? ⟨gb458, 2, none⟩ = some (.bool t455) := (blk_cell BK458.out 2).trans rfl
               have hcz167_3 : wr.cell? ⟨gb458, 3, none⟩ = some (.bool t456) := (blk_cell BK458.out 3).trans rfl
               have hfz167_0 := blk_frozen BK458.out 0
               have hfz167_1 := blk_frozen BK458.out 1
               have hfz167_2 := blk_frozen BK458.out 2
               have hfz167_3 := blk_frozen BK458.out 3
               obtain ⟨Ao168, co168, eo168⟩ := Kd.R_slice HO_11.out
               subst eo168
               go_wp2_with (first | ((with_reducible refine gate_callee (f := 65) rfl ?_); refine goesL_ (some 93) rfl rfl Tryd.func65 (by kernel_rfl) rfl #[.agg #[.bool t453, .bool t454, .bool t455, .bool t456], .slice Ao168 x11_3.length co168] rfl (by (try simp only [List.map_toArray, List.map_cons, List.map_nil]); first | done | rfl | (simp only [List.length_drop, List.length_take]; rfl)) ?_; (with_reducible refine (impl_BayRun.calls k3 t453 t454 t455 t456 _ _ x11_3 t485 t486 t487 t488 t489 _ ?side1 ?side2 A71.out).mono ?_); (case side1 => repeat (first | exact (Kd.R_reads' HO_11.out).2.2 | (with_reducible refine Kd.C_alloc ?_ _) | (with_reducible refine Kd.C_drewN ?_ _) | (with_reducible refine Kd.C_drew ?_))); (case side2 => exact (Kd.R_reads' HO_11.out).2.1); rintro e w169 ⟨rfl, hb⟩; refine ⟨_, rfl, ?_⟩; have n0_ := rB HO_4 hb; have n1_ := rB HO_11 hb; have n2_ := bkB BK452 hb; have n3_ := bkB BK458 hb; have n4_ := bkB BK464 hb; have n5_ := bkB BK476 hb; have n6_ := Aside0.mk (below_step bw hb); clear HO_4 HO_11 BK452 BK458 BK464 BK476 HB; have HO_4 := n0_; have HO_11 := n1_; have BK452 := n2_; have BK458 := n3_; have BK464 := n4_; have BK476 := n5_; have HB := n6_; clear n0_ n1_ n2_ n3_ n4_ n5_ n6_; (try clear hb); (try clear hb2); (try clear hk); (try clear hi)) | ((with_reducible refine gate_dst (N := 13) rfl ?_); (try (refine gate_guard (by rfl) ?_; dsimp only)); refine box_event ?hg (N := 13) ?hd (cs := #[.bool false, .bool false, .bool false, .bool false]) (t := 59) ?hr ?_; (case hd => rfl); (case hg => rfl); (case hr => first | (go_simp; done) | (go_simp; rfl)); intro gb490 hg w170 hbox hb; have n0_ := rB HO_4 hb; have n1_ := rB HO_11 hb; have n2_ := bkB BK452 hb; have n3_ := bkB BK458 hb; have n4_ := bkB BK464 hb; have n5_ := bkB BK476 hb; have n6_ := Aside0.mk (below_step bw hb); have n7_ := Aside0.mk (hbox); have n8_ := Aside0.mk ((by rw [hg]; exact (below_size bw) : w.heap.size ≤ gb490)); have n9_ := Aside0.mk ((by rw [hg]; exact (below_size bw) : w.heap.size ≤ gb490)); have n10_ := Aside0.mk ((by rw [hg]; exact Nat.ne_of_lt (blk_lt (g := gb452) (o := .cells #[.bool t445, .bool t446, .bool t447, .bool t448] 59 (0, 0)) (bk BK452)) : gb452 ≠ gb490)); have n11_ := Aside0.mk ((by rw [hg]; exact Nat.ne_of_gt (blk_lt (g := gb452) (o := .cells #[.bool t445, .bool t446, .bool t447, .bool t448] 59 (0, 0)) (bk BK452)) : gb490 ≠ gb452)); have n12_ := Aside0.mk ((by rw [hg]; exact Nat.ne_of_lt (blk_lt (g := gb458) (o := .cells #[.bool t453, .bool t454, .bool t455, .bool t456] 59 (0, 0)) (bk BK458)) : gb458 ≠ gb490)); have n13_ := Aside0.mk ((by rw [hg]; exact Nat.ne_of_gt (blk_lt (g := gb458) (o := .cells #[.bool t453, .bool t454, .bool t455, .bool t456] 59 (0, 0)) (bk BK458)) : gb490 ≠ gb458)); have n14_ := Aside0.mk ((by rw [hg]; exact Nat.ne_of_lt (blk_lt (g := gb464) (o := .cells #[.bool t459, .bool t460, .bool t461, .bool t462] 59 (0, 0)) (bk BK464)) : gb464 ≠ gb490)); have n15_ := Aside0.mk ((by rw [hg]; exact Nat.ne_of_gt (blk_lt (g := gb464) (o := .cells #[.bool t459, .bool t460, .bool t461, .bool t462] 59 (0, 0)) (bk BK464)) : gb490 ≠ gb464)); have n16_ := Aside0.mk ((by rw [hg]; exact Nat.ne_of_lt (blk_lt (g := gb476) (o := .cells #[.bool t471, .bool t472, .bool t473, .bool t474] 59 (0, 0)) (bk BK476)) : gb476 ≠ gb490)); have n17_ := Aside0.mk ((by rw [hg]; exact Nat.ne_of_gt (blk_lt (g := gb476) (o := .cells #[.bool t471, .bool t472, .bool t473, .bool t474] 59 (0, 0)) (bk BK476)) : gb490 ≠ gb476)); clear HO_4 HO_11 BK452 BK458 BK464 BK476 HB; have HO_4 := n0_; have HO_11 := n1_; have BK452 := n2_; have BK458 := n3_; have BK464 := n4_; have BK476 := n5_; have HB := n6_; have BK490 := n7_; have GW490 := n8_; have GE490 := n9_; have NB452_490 := n10_; have NB490_452 := n11_; have NB458_490 := n12_; have NB490_458 := n13_; have NB464_490 := n14_; have NB490_464 := n15_; have NB476_490 := n16_; have NB490_476 := n17_; clear n0_ n1_ n2_ n3_ n4_ n5_ n6_ n7_ n8_ n9_ n10_ n11_ n12_ n13_ n14_ n15_ n16_ n17_; clear hb hbox hg; have hnb171 := NB490_452.out; have hnc171 := NB452_490.out; have hnb172 := NB490_458.out; have hnc172 := NB458_490.out; have hnb173 := NB490_464.out; have hnc173 := NB464_490.out; have hnb174 := NB490_476.out; have hnc174 := NB476_490.out; have hcz175_0 : w170.cell? ⟨gb490, 0, none⟩ = some (.bool false) := (blk_cell BK490.out 0).trans rfl; have hcz175_1 : w170.cell? ⟨gb490, 1, none⟩ = some (.bool false) := (blk_cell BK490.out 1).trans rfl; have hcz175_2 : w170.cell? ⟨gb490, 2, none⟩ = some (.bool false) := (blk_cell BK490.out 2).trans rfl; have hcz175_3 : w170.cell? ⟨gb490, 3, none⟩ = some (.bool false) := (blk_cell BK490.out 3).trans rfl; have hfz175_0 := blk_frozen BK490.out 0; have hfz175_1 := blk_frozen BK490.out 1; have hfz175_2 := blk_frozen BK490.out 2; have hfz175_3 := blk_frozen BK490.out 3; have hnb176 := NB476_452.out; have hnc176 := NB452_476.out; have hnb177 := NB476_464.out; have hnc177 := NB464_476.out; have hcz178_0 : w170.cell? ⟨gb476, 0, none⟩ = some (.bool t471) := (blk_cell BK476.out 0).trans rfl; have hcz178_1 : w170.cell? ⟨gb476, 1, none⟩ = some (.bool t472) := (blk_cell BK476.out 1).trans rfl; have hcz178_2 : w170.cell? ⟨gb476, 2, none⟩ = some (.bool t473) := (blk_cell BK476.out 2).trans rfl; have hcz178_3 : w170.cell? ⟨gb476, 3, none⟩ = some (.bool t474) := (blk_cell BK476.out 3).trans rfl; have hfz178_0 := blk_frozen BK476.out 0; have hfz178_1 := blk_frozen BK476.out 1; have hfz178_2 := blk_frozen BK476.out 2; have hfz178_3 := blk_frozen BK476.out 3; have hcz179_0 : w170.cell? ⟨gb458, 0, none⟩ = some (.bool t453) := (blk_cell BK458.out 0).trans rfl; have hcz179_1 : w170.cell? ⟨gb458, 1, none⟩ = some (.bool t454) := (blk_cell BK458.out 1).trans rfl; have hcz179_2 : w170.cell? ⟨gb458, 2, none⟩ = some (.bool t455) := (blk_cell BK458.out 2).trans rfl; have hcz179_3 : w170.cell? ⟨gb458, 3, none⟩ = some (.bool t456) := (blk_cell BK458.out 3).trans rfl; have hfz179_0 := blk_frozen BK458.out 0; have hfz179_1 := blk_frozen BK458.out 1; have hfz179_2 := blk_frozen BK458.out 2; have hfz179_3 := blk_frozen BK458.out 3))
               go_ret
               exact ⟨by first | rfl | (simp [errW_none, errW_some] <;> rfl) | (simp [*, errW_none, errW_some] <;> rfl), bw⟩
             ·rw [if_neg c72] at H
              have c72b0 : (t471 == t453 && (t472 == t454 && (t473 == t455 && (t474 == t456)))) = false := by simpa using c72
              (try (have c72b1 : decide (t471 = t453 && (t472 == t454 && (t473 == t455 && (t474 == t456)))) = false := by simpa using c72))
              (try (have c72b2 : (t471 == t453 && (t472 == t454 && (t473 == t455 && (t474 == t456)))) = false := by simpa using c72))
              (try (have c72b3 : ¬ (t471 = t453 && (t472 == t454 && (t473 == t455 && (t474 == t456)))) := by simpa using c72))
              clear c72
              obtain rfl := Option.some.inj H
              have hnb180 := NB458_452.out
              have hnc180 := NB452_458.out
              have hnb181 := NB458_464.out
              have hnc181 := NB464_458.out
              have hnb182 := NB458_476.out
              have hnc182 := NB476_458.out
              have hcz183_0 : wr.cell? ⟨gb458, 0, none⟩ = some (.bool t453) := (blk_cell BK458.out 0).trans rfl
              have hcz183_1 : wr.cell? ⟨gb458, 1, none⟩ = some (.bool t454) := (blk_cell BK458.out 1).trans rfl
              have hcz183_2 : wr.cell? ⟨gb458, 2, none⟩ = some (.bool t455) := (blk_cell BK458.out 2).trans rfl
              have hcz183_3 : wr.cell? ⟨gb458, 3, none⟩ = some (.bool t456) := (blk_cell BK458.out 3).trans rfl
              have hfz183_0 := blk_frozen BK458.out 0
              have hfz183_1 := blk_frozen BK458.out 1
              have hfz183_2 := blk_frozen BK458.out 2
              have hfz183_3 := blk_frozen BK458.out 3
              obtain ⟨Ao184, co184, eo184⟩ := Kd.R_slice HO_11.out
              subst eo184
              go_wp2_with (first | ((with_reducible refine gate_callee (f := 65) rfl ?_); refine goesL_ (some 93) rfl rfl Tryd.func65 (by kernel_rfl) rfl #[.agg #[.bool t453, .bool t454, .bool t455, .bool t456], .slice Ao184 x11_3.length co184] rfl (by (try simp only [List.map_toArray, List.map_cons, List.map_nil]); first | done | rfl | (simp only [List.length_drop, List.length_take]; rfl)) ?_; (with_reducible refine (impl_BayRun.calls k3 t453 t454 t455 t456 _ _ x11_3 t485 t486 t487 t488 t489 _ ?side1 ?side2 A71.out).mono ?_); (case side1 => repeat (first | exact (Kd.R_reads' HO_11.out).2.2 | (with_reducible refine Kd.C_alloc ?_ _) | (with_reducible refine Kd.C_drewN ?_ _) | (with_reducible refine Kd.C_drew ?_))); (case side2 => exact (Kd.R_reads' HO_11.out).2.1); rintro e w185 ⟨rfl, hb⟩; refine ⟨_, rfl, ?_⟩; have n0_ := rB HO_4 hb; have n1_ := rB HO_11 hb; have n2_ := bkB BK452 hb; have n3_ := bkB BK458 hb; have n4_ := bkB BK464 hb; have n5_ := bkB BK476 hb; have n6_ := Aside0.mk (below_step bw hb); clear HO_4 HO_11 BK452 BK458 BK464 BK476 HB; have HO_4 := n0_; have HO_11 := n1_; have BK452 := n2_; have BK458 := n3_; have BK464 := n4_; have BK476 := n5_; have HB := n6_; clear n0_ n1_ n2_ n3_ n4_ n5_ n6_; (try clear hb); (try clear hb2); (try clear hk); (try clear hi)) | ((with_reducible refine gate_dst (N := 13) rfl ?_); (try (refine gate_guard (by rfl) ?_; dsimp only)); refine box_event ?hg (N := 13) ?hd (cs := #[.bool false, .bool false, .bool false, .bool false]) (t := 59) ?hr ?_; (case hd => rfl); (case hg => rfl); (case hr => first | (go_simp; done) | (go_simp; rfl)); intro gb490 hg w186 hbox hb; have n0_ := rB HO_4 hb; have n1_ := rB HO_11 hb; have n2_ := bkB BK452 hb; have n3_ := bkB BK458 hb; have n4_ := bkB BK464 hb; have n5_ := bkB BK476 hb; have n6_ := Aside0.mk (below_step bw hb); have n7_ := Aside0.mk (hbox); have n8_ := Aside0.mk ((by rw [hg]; exact (below_size bw) : w.heap.size ≤ gb490)); have n9_ := Aside0.mk ((by rw [hg]; exact (below_size bw) : w.heap.size ≤ gb490)); have n10_ := Aside0.mk ((by rw [hg]; exact Nat.ne_of_lt (blk_lt (g := gb452) (o := .cells #[.bool t445, .bool t446, .bool t447, .bool t448] 59 (0, 0)) (bk BK452)) : gb452 ≠ gb490)); have n11_ := Aside0.mk ((by rw [hg]; exact Nat.ne_of_gt (blk_lt (g := gb452) (o := .cells #[.bool t445, .bool t446, .bool t447, .bool t448] 59 (0, 0)) (bk BK452)) : gb490 ≠ gb452)); have n12_ := Aside0.mk ((by rw [hg]; exact Nat.ne_of_lt (blk_lt (g := gb458) (o := .cells #[.bool t453, .bool t454, .bool t455, .bool t456] 59 (0, 0)) (bk BK458)) : gb458 ≠ gb490)); have n13_ := Aside0.mk ((by rw [hg]; exact Nat.ne_of_gt (blk_lt (g := gb458) (o := .cells #[.bool t453, .bool t454, .bool t455, .bool t456] 59 (0, 0)) (bk BK458)) : gb490 ≠ gb458)); have n14_ := Aside0.mk ((by rw [hg]; exact Nat.ne_of_lt (blk_lt (g := gb464) (o := .cells #[.bool t459, .bool t460, .bool t461, .bool t462] 59 (0, 0)) (bk BK464)) : gb464 ≠ gb490)); have n15_ := Aside0.mk ((by rw [hg]; exact Nat.ne_of_gt (blk_lt (g := gb464) (o := .cells #[.bool t459, .bool t460, .bool t461, .bool t462] 59 (0, 0)) (bk BK464)) : gb490 ≠ gb464)); have n16_ := Aside0.mk ((by rw [hg]; exact Nat.ne_of_lt (blk_lt (g := gb476) (o := .cells #[.bool t471, .bool t472, .bool t473, .bool t474] 59 (0, 0)) (bk BK476)) : gb476 ≠ gb490)); have n17_ := Aside0.mk ((by rw [hg]; exact Nat.ne_of_gt (blk_lt (g := gb476) (o := .cells #[.bool t471, .bool t472, .bool t473, .bool t474] 59 (0, 0)) (bk BK476)) : gb490 ≠ gb476)); clear HO_4 HO_11 BK452 BK458 BK464 BK476 HB; have HO_4 := n0_; have HO_11 := n1_; have BK452 := n2_; have BK458 := n3_; have BK464 := n4_; have BK476 := n5_; have HB := n6_; have BK490 := n7_; have GW490 := n8_; have GE490 := n9_; have NB452_490 := n10_; have NB490_452 := n11_; have NB458_490 := n12_; have NB490_458 := n13_; have NB464_490 := n14_; have NB490_464 := n15_; have NB476_490 := n16_; have NB490_476 := n17_; clear n0_ n1_ n2_ n3_ n4_ n5_ n6_ n7_ n8_ n9_ n10_ n11_ n12_ n13_ n14_ n15_ n16_ n17_; clear hb hbox hg; have hnb187 := NB490_452.out; have hnc187 := NB452_490.out; have hnb188 := NB490_458.out; have hnc188 := NB458_490.out; have hnb189 := NB490_464.out; have hnc189 := NB464_490.out; have hnb190 := NB490_476.out; have hnc190 := NB476_490.out; have hcz191_0 : w186.cell? ⟨gb490, 0, none⟩ = some (.bool false) := (blk_cell BK490.out 0).trans rfl; have hcz191_1 : w186.cell? ⟨gb490, 1, none⟩ = some (.bool false) := (blk_cell BK490.out 1).trans rfl; have hcz191_2 : w186.cell? ⟨gb490, 2, none⟩ = some (.bool false) := (blk_cell BK490.out 2).trans rfl; have hcz191_3 : w186.cell? ⟨gb490, 3, none⟩ = some (.bool false) := (blk_cell BK490.out 3).trans rfl; have hfz191_0 := blk_frozen BK490.out 0; have hfz191_1 := blk_frozen BK490.out 1; have hfz191_2 := blk_frozen BK490.out 2; have hfz191_3 := blk_frozen BK490.out 3; have hnb192 := NB476_452.out; have hnc192 := NB452_476.out; have hnb193 := NB476_464.out; have hnc193 := NB464_476.out; have hcz194_0 : w186.cell? ⟨gb476, 0, none⟩ = some (.bool t471) := (blk_cell BK476.out 0).trans rfl; have hcz194_1 : w186.cell? ⟨gb476, 1, none⟩ = some (.bool t472) := (blk_cell BK476.out 1).trans rfl; have hcz194_2 : w186.cell? ⟨gb476, 2, none⟩ = some (.bool t473) := (blk_cell BK476.out 2).trans rfl; have hcz194_3 : w186.cell? ⟨gb476, 3, none⟩ = some (.bool t474) := (blk_cell BK476.out 3).trans rfl; have hfz194_0 := blk_frozen BK476.out 0; have hfz194_1 := blk_frozen BK476.out 1; have hfz194_2 := blk_frozen BK476.out 2; have hfz194_3 := blk_frozen BK476.out 3; have hcz195_0 : w186.cell? ⟨gb458, 0, none⟩ = some (.bool t453) := (blk_cell BK458.out 0).trans rfl; have hcz195_1 : w186.cell? ⟨gb458, 1, none⟩ = some (.bool t454) := (blk_cell BK458.out 1).trans rfl; have hcz195_2 : w186.cell? ⟨gb458, 2, none⟩ = some (.bool t455) := (blk_cell BK458.out 2).trans rfl; have hcz195_3 : w186.cell? ⟨gb458, 3, none⟩ = some (.bool t456) := (blk_cell BK458.out 3).trans rfl; have hfz195_0 := blk_frozen BK458.out 0; have hfz195_1 := blk_frozen BK458.out 1; have hfz195_2 := blk_frozen BK458.out 2; have hfz195_3 := blk_frozen BK458.out 3))
              go_ret
              exact ⟨by first | rfl | (simp [errW_none, errW_some] <;> rfl) | (simp [*, errW_none, errW_some] <;> rfl), bw⟩
         ·rw [if_neg c52] at H
          exact absurd H (by simp)
        ·rw [if_neg c51] at H
         exact absurd H (by simp)

end Go.Proofs.YtoajkfhjgnonjaaDoor.G
