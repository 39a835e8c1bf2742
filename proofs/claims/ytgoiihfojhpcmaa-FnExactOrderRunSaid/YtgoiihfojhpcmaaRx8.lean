-- Printed by wip/gen.py of this session's repo, over the kit's print.py. Not trusted: Lean checks it.
import Derived.Test.YtgoiihfojhpcmaaRx0
import Derived.Test.YtgoiihfojhpcmaaSq
import Derived.Test.YtgoiihfojhpcmaaRx1
import Derived.Test.YtgoiihfojhpcmaaRx2
import Derived.Test.YtgoiihfojhpcmaaRx3
import Derived.Test.YtgoiihfojhpcmaaRx4
import Derived.Test.YtgoiihfojhpcmaaRx5
import Derived.Test.YtgoiihfojhpcmaaRx6
import Derived.Test.YtgoiihfojhpcmaaRx7
namespace Go.Proofs.Ytgoiihfojhpcmaa.R
open Go.RowKit Go.Proofs.YtgoiihfojhpcmaaW.PrintWords Go.Proofs.YtgoiihfojhpcmaaW.PrintLast Go.Proofs.YtgoiihfojhpcmaaW.PrintMore Go.Proofs.Ytgoiihfojhpcmaa.Sq
attribute [local go_sem] max2_int min2_int max_two min_two max_three min_three max_four min_four   -- for this text's walks alone
set_option linter.unusedVariables false
set_option linter.unusedSimpArgs false

/-! ### laws_FnExactOrderRun: function 4 -/
mutual
def laws_FnExactOrderRun.j0 : Nat → List Bool → List (S105) → List Bool → Int → List Bool → List (S98) → List Bool → Int → Bool → Int → List (S141) → Int → List (S139) → Option (Bool)
 | 0, _, _, _, _, _, _, _, _, _, _, _, _, _ => none
 | k + 1, x1, x2, x8, x9, x11, x12, x13, x14, x64, x216000, x216001, x237000, x237001 => if x64 = true then (some false) else ((laws_toNet.f k x216000 x216001).bind fun bt248 => ((laws_eqNet.f k x237000 x237001 bt248.1 bt248.2).bind fun t252 => (if t252 = true then ((laws_toBoolS.f k x1).bind fun t253 => ((laws_eqBoolS.f k x11 t253).bind fun t256 => (if t256 = true then ((laws_toStepS.f k x2).bind fun t257 => ((laws_eqStepS.f k x12 t257).bind fun t260 => (if t260 = true then ((laws_markNet.f k x237000 x237001 1).bind fun bt261 => ((laws_markBoolS.f k x11 bt261.1).bind fun bt263 => ((laws_markStepS.f k x12 bt263.1).bind fun bt265 => (if bt265.1 < 0 then (laws_FnExactOrderRun.j1 k x1 x2 x8 x9 x13 true x216000 x216001) else ((laws_eqBoolS.f k x13 x8).bind fun t267 => (if t267 = true then (laws_FnExactOrderRun.j1 k x1 x2 x8 x9 x13 (x14 != x9) x216000 x216001) else (laws_FnExactOrderRun.j1 k x1 x2 x8 x9 x13 true x216000 x216001))))))) else (some false)))) else (some false)))) else (some false))))
def laws_FnExactOrderRun.j1 : Nat → List Bool → List (S105) → List Bool → Int → List Bool → Bool → Int → List (S141) → Option (Bool)
 | 0, _, _, _, _, _, _, _, _ => none
 | k + 1, x1, x2, x8, x9, x13, x101, x216000, x216001 => if x101 = true then (some false) else ((laws_markBoolS.f k x13 1).bind fun bt268 => ((laws_heldBoolS.f k bt268.2 1).bind fun t270 => (if t270 < 0 then (some false) else (if t270 = bt268.1 then ((laws_toNet.f k x216000 x216001).bind fun bt271 => ((laws_toBoolS.f k x1).bind fun t275 => ((laws_toStepS.f k x2).bind fun t278 => ((impl_OrderRun.f k bt271.1 bt271.2 t275 t278).bind fun bt281 => ((laws_eqBoolS.f k bt281.1 x8).bind fun t285 => (if t285 = true then (laws_FnExactOrderRun.j2 k bt268.2 bt268.1 (bt281.2 != x9)) else (laws_FnExactOrderRun.j2 k bt268.2 bt268.1 true))))))) else (some false)))))
def laws_FnExactOrderRun.j2 : Nat → List Bool → Int → Bool → Option (Bool)
 | 0, _, _, _ => none
 | k + 1, x13, x16, x131 => if x131 = true then (some false) else ((laws_heldBoolS.f k x13 1).bind fun t286 => (if t286 < 0 then (some false) else (if t286 = x16 then (some true) else (some false))))
end
def laws_FnExactOrderRun.f (k : Nat) (a0_0 : Int) (l0_1 : List (S141)) (l1 : List Bool) (l2 : List (S105)) : Option (Bool) := if (l1.length : Int) > 1048576 then (some true) else ((laws_szNet.f a0_0 l0_1 1048576).bind fun t216 => (if t216 < 0 then (some true) else ((laws_szStepS.f l2 t216).bind fun t217 => (if t217 < 0 then (some true) else ((laws_toNet.f k a0_0 l0_1).bind fun bt218 => ((laws_toBoolS.f k l1).bind fun t222 => ((laws_toStepS.f k l2).bind fun t225 => ((spec_OrderRun.f k bt218.1 bt218.2 t222 t225).bind fun bt228 => ((laws_toNet.f k a0_0 l0_1).bind fun bt232 => ((laws_toBoolS.f k l1).bind fun t237 => ((laws_toStepS.f k l2).bind fun t240 => ((impl_OrderRun.f k bt232.1 bt232.2 t237 t240).bind fun bt243 => ((laws_eqBoolS.f k bt243.1 bt228.1).bind fun t247 => (if t247 = true then (laws_FnExactOrderRun.j0 k l1 l2 bt228.1 bt228.2 t237 t240 bt243.1 bt243.2 (bt243.2 != bt228.2) a0_0 l0_1 bt232.1 bt232.2) else (laws_FnExactOrderRun.j0 k l1 l2 bt228.1 bt228.2 t237 t240 bt243.1 bt243.2 true a0_0 l0_1 bt232.1 bt232.2)))))))))))))))
theorem laws_FnExactOrderRun.mono_l : ∀ k, (∀ y0 y1 y2 y3 y4 y5 y6 y7 y8 y9 y10 y11 y12, LeO (laws_FnExactOrderRun.j0 k y0 y1 y2 y3 y4 y5 y6 y7 y8 y9 y10 y11 y12) (laws_FnExactOrderRun.j0 (k + 1) y0 y1 y2 y3 y4 y5 y6 y7 y8 y9 y10 y11 y12)) ∧ (∀ y0 y1 y2 y3 y4 y5 y6 y7, LeO (laws_FnExactOrderRun.j1 k y0 y1 y2 y3 y4 y5 y6 y7) (laws_FnExactOrderRun.j1 (k + 1) y0 y1 y2 y3 y4 y5 y6 y7)) ∧ (∀ y0 y1 y2, LeO (laws_FnExactOrderRun.j2 k y0 y1 y2) (laws_FnExactOrderRun.j2 (k + 1) y0 y1 y2))
 | 0 => ⟨fun _ _ _ _ _ _ _ _ _ _ _ _ _ r h => by simp [laws_FnExactOrderRun.j0] at h, fun _ _ _ _ _ _ _ _ r h => by simp [laws_FnExactOrderRun.j1] at h, fun _ _ _ r h => by simp [laws_FnExactOrderRun.j2] at h⟩
 | k + 1 => by
  obtain ⟨ih0, ih1, ih2⟩ := laws_FnExactOrderRun.mono_l k
  refine ⟨?_, ?_, ?_⟩
  ·intro y0 y1 y2 y3 y4 y5 y6 y7 y8 y9 y10 y11 y12
   unfold laws_FnExactOrderRun.j0
   repeat' first
   | (with_reducible exact ih0 _ _ _ _ _ _ _ _ _ _ _ _ _)
   | (with_reducible exact ih1 _ _ _ _ _ _ _ _)
   | (with_reducible exact ih2 _ _ _)
   | (with_reducible exact impl_OrderRun.mono _ _ _ _ _)
   | (with_reducible exact laws_eqBoolS.mono _ _ _)
   | (with_reducible exact laws_eqNet.mono _ _ _ _ _)
   | (with_reducible exact laws_eqStepS.mono _ _ _)
   | (with_reducible exact laws_heldBoolS.mono _ _ _)
   | (with_reducible exact laws_markBoolS.mono _ _ _)
   | (with_reducible exact laws_markNet.mono _ _ _ _)
   | (with_reducible exact laws_markStepS.mono _ _ _)
   | (with_reducible exact laws_toBoolS.mono _ _)
   | (with_reducible exact laws_toNet.mono _ _ _)
   | (with_reducible exact laws_toStepS.mono _ _)
   | (with_reducible exact spec_OrderRun.mono _ _ _ _ _)
   | (with_reducible exact LeO.refl _)
   | (with_reducible exact LeO.none _)
   | (with_reducible refine LeO.ite ?_ ?_)
   | (with_reducible refine LeO.bind ?_ (fun _ => ?_))
   | exact ih0 _ _ _ _ _ _ _ _ _ _ _ _ _
   | exact ih1 _ _ _ _ _ _ _ _
   | exact ih2 _ _ _
   | exact impl_OrderRun.mono _ _ _ _ _
   | exact laws_eqBoolS.mono _ _ _
   | exact laws_eqNet.mono _ _ _ _ _
   | exact laws_eqStepS.mono _ _ _
   | exact laws_heldBoolS.mono _ _ _
   | exact laws_markBoolS.mono _ _ _
   | exact laws_markNet.mono _ _ _ _
   | exact laws_markStepS.mono _ _ _
   | exact laws_toBoolS.mono _ _
   | exact laws_toNet.mono _ _ _
   | exact laws_toStepS.mono _ _
   | exact spec_OrderRun.mono _ _ _ _ _
   | exact LeO.none _
   | refine LeO.ite ?_ ?_
   | refine LeO.bind ?_ (fun _ => ?_)
  ·intro y0 y1 y2 y3 y4 y5 y6 y7
   unfold laws_FnExactOrderRun.j1
   repeat' first
   | (with_reducible exact ih0 _ _ _ _ _ _ _ _ _ _ _ _ _)
   | (with_reducible exact ih1 _ _ _ _ _ _ _ _)
   | (with_reducible exact ih2 _ _ _)
   | (with_reducible exact impl_OrderRun.mono _ _ _ _ _)
   | (with_reducible exact laws_eqBoolS.mono _ _ _)
   | (with_reducible exact laws_eqNet.mono _ _ _ _ _)
   | (with_reducible exact laws_eqStepS.mono _ _ _)
   | (with_reducible exact laws_heldBoolS.mono _ _ _)
   | (with_reducible exact laws_markBoolS.mono _ _ _)
   | (with_reducible exact laws_markNet.mono _ _ _ _)
   | (with_reducible exact laws_markStepS.mono _ _ _)
   | (with_reducible exact laws_toBoolS.mono _ _)
   | (with_reducible exact laws_toNet.mono _ _ _)
   | (with_reducible exact laws_toStepS.mono _ _)
   | (with_reducible exact spec_OrderRun.mono _ _ _ _ _)
   | (with_reducible exact LeO.refl _)
   | (with_reducible exact LeO.none _)
   | (with_reducible refine LeO.ite ?_ ?_)
   | (with_reducible refine LeO.bind ?_ (fun _ => ?_))
   | exact ih0 _ _ _ _ _ _ _ _ _ _ _ _ _
   | exact ih1 _ _ _ _ _ _ _ _
   | exact ih2 _ _ _
   | exact impl_OrderRun.mono _ _ _ _ _
   | exact laws_eqBoolS.mono _ _ _
   | exact laws_eqNet.mono _ _ _ _ _
   | exact laws_eqStepS.mono _ _ _
   | exact laws_heldBoolS.mono _ _ _
   | exact laws_markBoolS.mono _ _ _
   | exact laws_markNet.mono _ _ _ _
   | exact laws_markStepS.mono _ _ _
   | exact laws_toBoolS.mono _ _
   | exact laws_toNet.mono _ _ _
   | exact laws_toStepS.mono _ _
   | exact spec_OrderRun.mono _ _ _ _ _
   | exact LeO.none _
   | refine LeO.ite ?_ ?_
   | refine LeO.bind ?_ (fun _ => ?_)
  ·intro y0 y1 y2
   unfold laws_FnExactOrderRun.j2
   repeat' first
   | (with_reducible exact ih0 _ _ _ _ _ _ _ _ _ _ _ _ _)
   | (with_reducible exact ih1 _ _ _ _ _ _ _ _)
   | (with_reducible exact ih2 _ _ _)
   | (with_reducible exact impl_OrderRun.mono _ _ _ _ _)
   | (with_reducible exact laws_eqBoolS.mono _ _ _)
   | (with_reducible exact laws_eqNet.mono _ _ _ _ _)
   | (with_reducible exact laws_eqStepS.mono _ _ _)
   | (with_reducible exact laws_heldBoolS.mono _ _ _)
   | (with_reducible exact laws_markBoolS.mono _ _ _)
   | (with_reducible exact laws_markNet.mono _ _ _ _)
   | (with_reducible exact laws_markStepS.mono _ _ _)
   | (with_reducible exact laws_toBoolS.mono _ _)
   | (with_reducible exact laws_toNet.mono _ _ _)
   | (with_reducible exact laws_toStepS.mono _ _)
   | (with_reducible exact spec_OrderRun.mono _ _ _ _ _)
   | (with_reducible exact LeO.refl _)
   | (with_reducible exact LeO.none _)
   | (with_reducible refine LeO.ite ?_ ?_)
   | (with_reducible refine LeO.bind ?_ (fun _ => ?_))
   | exact ih0 _ _ _ _ _ _ _ _ _ _ _ _ _
   | exact ih1 _ _ _ _ _ _ _ _
   | exact ih2 _ _ _
   | exact impl_OrderRun.mono _ _ _ _ _
   | exact laws_eqBoolS.mono _ _ _
   | exact laws_eqNet.mono _ _ _ _ _
   | exact laws_eqStepS.mono _ _ _
   | exact laws_heldBoolS.mono _ _ _
   | exact laws_markBoolS.mono _ _ _
   | exact laws_markNet.mono _ _ _ _
   | exact laws_markStepS.mono _ _ _
   | exact laws_toBoolS.mono _ _
   | exact laws_toNet.mono _ _ _
   | exact laws_toStepS.mono _ _
   | exact spec_OrderRun.mono _ _ _ _ _
   | exact LeO.none _
   | refine LeO.ite ?_ ?_
   | refine LeO.bind ?_ (fun _ => ?_)
theorem laws_FnExactOrderRun.mono : ∀ a0 a1 a2 a3 k, LeO (laws_FnExactOrderRun.f k a0 a1 a2 a3) (laws_FnExactOrderRun.f (k + 1) a0 a1 a2 a3) := by
 intro a0 a1 a2 a3 k
 obtain ⟨ih0, ih1, ih2⟩ := laws_FnExactOrderRun.mono_l k
 unfold laws_FnExactOrderRun.f
 repeat' first
   | (with_reducible exact ih0 _ _ _ _ _ _ _ _ _ _ _ _ _)
   | (with_reducible exact ih1 _ _ _ _ _ _ _ _)
   | (with_reducible exact ih2 _ _ _)
   | (with_reducible exact impl_OrderRun.mono _ _ _ _ _)
   | (with_reducible exact laws_eqBoolS.mono _ _ _)
   | (with_reducible exact laws_eqNet.mono _ _ _ _ _)
   | (with_reducible exact laws_eqStepS.mono _ _ _)
   | (with_reducible exact laws_heldBoolS.mono _ _ _)
   | (with_reducible exact laws_markBoolS.mono _ _ _)
   | (with_reducible exact laws_markNet.mono _ _ _ _)
   | (with_reducible exact laws_markStepS.mono _ _ _)
   | (with_reducible exact laws_toBoolS.mono _ _)
   | (with_reducible exact laws_toNet.mono _ _ _)
   | (with_reducible exact laws_toStepS.mono _ _)
   | (with_reducible exact spec_OrderRun.mono _ _ _ _ _)
   | (with_reducible exact LeO.refl _)
   | (with_reducible exact LeO.none _)
   | (with_reducible refine LeO.ite ?_ ?_)
   | (with_reducible refine LeO.bind ?_ (fun _ => ?_))
   | exact ih0 _ _ _ _ _ _ _ _ _ _ _ _ _
   | exact ih1 _ _ _ _ _ _ _ _
   | exact ih2 _ _ _
   | exact impl_OrderRun.mono _ _ _ _ _
   | exact laws_eqBoolS.mono _ _ _
   | exact laws_eqNet.mono _ _ _ _ _
   | exact laws_eqStepS.mono _ _ _
   | exact laws_heldBoolS.mono _ _ _
   | exact laws_markBoolS.mono _ _ _
   | exact laws_markNet.mono _ _ _ _
   | exact laws_markStepS.mono _ _ _
   | exact laws_toBoolS.mono _ _
   | exact laws_toNet.mono _ _ _
   | exact laws_toStepS.mono _ _
   | exact spec_OrderRun.mono _ _ _ _ _
   | exact LeO.none _
   | refine LeO.ite ?_ ?_
   | refine LeO.bind ?_ (fun _ => ?_)
set_option maxHeartbeats 8000000 in
set_option maxRecDepth 100000 in
theorem laws_FnExactOrderRun.calls (k : Nat) (a0_0 : Int) (A0_1 : Option Addr) (c0_1 : Nat) (l0_1 : List (S141)) (A1 : Option Addr) (c1 : Nat) (l1 : List Bool) (A2 : Option Addr) (c2 : Nat) (l2 : List (S105)) (r : Bool) (w : World) (hr0_1 : Kd.C k141 w A0_1 l0_1.length l0_1) (hc0_1 : l0_1.length ≤ c0_1) (hr1 : Kd.C Kd.bool w A1 l1.length l1) (hc1 : l1.length ≤ c1) (hr2 : Kd.C k105 w A2 l2.length l2) (hc2 : l2.length ≤ c2) (h : laws_FnExactOrderRun.f k a0_0 l0_1 l1 l2 = some r) :
  Calls Try.prog 4 #[.agg #[.int .i64 a0_0, .slice A0_1 l0_1.length c0_1], .slice A1 l1.length c1, .slice A2 l2.length c2] w fun e w' => e = .returned (.bool r) ∧ Below w.heap.size w w' := by
 have hu24 := Try.underlying24
 have hu35 := Try.underlying35
 have HR0_1 := Aside0.mk hr0_1
 have HC0_1 := Aside0.mk hc0_1
 clear hr0_1 hc0_1
 have HR1 := Aside0.mk hr1
 have HC1 := Aside0.mk hc1
 clear hr1 hc1
 have HR2 := Aside0.mk hr2
 have HC2 := Aside0.mk hc2
 clear hr2 hc2
 have HB := Aside0.mk (Below.refl w.heap.size w)
 have H : (if (l1.length : Int) > 1048576 then (some true) else ((laws_szNet.f a0_0 l0_1 1048576).bind fun t216 => (if t216 < 0 then (some true) else ((laws_szStepS.f l2 t216).bind fun t217 => (if t217 < 0 then (some true) else ((laws_toNet.f k a0_0 l0_1).bind fun bt218 => ((laws_toBoolS.f k l1).bind fun t222 => ((laws_toStepS.f k l2).bind fun t225 => ((spec_OrderRun.f k bt218.1 bt218.2 t222 t225).bind fun bt228 => ((laws_toNet.f k a0_0 l0_1).bind fun bt232 => ((laws_toBoolS.f k l1).bind fun t237 => ((laws_toStepS.f k l2).bind fun t240 => ((impl_OrderRun.f k bt232.1 bt232.2 t237 t240).bind fun bt243 => ((laws_eqBoolS.f k bt243.1 bt228.1).bind fun t247 => (if t247 = true then (laws_FnExactOrderRun.j0 k l1 l2 bt228.1 bt228.2 t237 t240 bt243.1 bt243.2 (bt243.2 != bt228.2) a0_0 l0_1 bt232.1 bt232.2) else (laws_FnExactOrderRun.j0 k l1 l2 bt228.1 bt228.2 t237 t240 bt243.1 bt243.2 true a0_0 l0_1 bt232.1 bt232.2)))))))))))))))) = some r := h
 clear h
 by_cases c4 : (l1.length : Int) > 1048576
 ·rw [if_pos c4] at H
  have c4b0 : decide (1048576 < (l1.length : Int)) = true := decide_eq_true c4
  have c4b1 : decide (1048576 < l1.length) = true := decide_eq_true (by omega)
  clear c4
  obtain rfl := Option.some.inj H
  go_enter Try.func4, Try.ntmps4
  go_wp2_with (first | ((with_reducible refine gate_dst (N := 3) rfl ?_); refine box_event ?hg (N := 3) ?hd (cs := #[.int .i64 a0_0, .slice A0_1 l0_1.length c0_1]) (t := 24) ?hr ?_; (case hd => rfl); (case hg => rfl); (case hr => first | (go_simp; done) | (go_simp; rfl)); intro gb215 hg w5 hbox hb; have n0_ := Aside0.mk (below_step bw hb); have n1_ := Aside0.mk (hbox); have n2_ := Aside0.mk ((by rw [hg]; exact (below_size bw) : w.heap.size ≤ gb215)); have n3_ := Aside0.mk ((by rw [hg]; exact (below_size bw) : w.heap.size ≤ gb215)); clear HB; have HB := n0_; have BK215 := n1_; have GW215 := n2_; have GE215 := n3_; clear n0_ n1_ n2_ n3_; clear hb hbox hg))
  go_ret
  exact ⟨by first | rfl | (simp [errW_none, errW_some] <;> rfl) | (simp [*, errW_none, errW_some] <;> rfl), bw⟩
 ·rw [if_neg c4] at H
  have c4b0 : decide (1048576 < (l1.length : Int)) = false := decide_eq_false c4
  have c4b1 : decide (1048576 < l1.length) = false := decide_eq_false (by omega)
  clear c4
  replace H := Option.bind_eq_some_iff.mp H
  obtain ⟨t216, A60, H⟩ := H
  replace H : (if t216 < 0 then (some true) else ((laws_szStepS.f l2 t216).bind fun t217 => (if t217 < 0 then (some true) else ((laws_toNet.f k a0_0 l0_1).bind fun bt218 => ((laws_toBoolS.f k l1).bind fun t222 => ((laws_toStepS.f k l2).bind fun t225 => ((spec_OrderRun.f k bt218.1 bt218.2 t222 t225).bind fun bt228 => ((laws_toNet.f k a0_0 l0_1).bind fun bt232 => ((laws_toBoolS.f k l1).bind fun t237 => ((laws_toStepS.f k l2).bind fun t240 => ((impl_OrderRun.f k bt232.1 bt232.2 t237 t240).bind fun bt243 => ((laws_eqBoolS.f k bt243.1 bt228.1).bind fun t247 => (if t247 = true then (laws_FnExactOrderRun.j0 k l1 l2 bt228.1 bt228.2 t237 t240 bt243.1 bt243.2 (bt243.2 != bt228.2) a0_0 l0_1 bt232.1 bt232.2) else (laws_FnExactOrderRun.j0 k l1 l2 bt228.1 bt228.2 t237 t240 bt243.1 bt243.2 true a0_0 l0_1 bt232.1 bt232.2)))))))))))))) = some r := H
  have A6 := Aside0.mk A60
  clear A60
  by_cases c7 : t216 < 0
  ·rw [if_pos c7] at H
   have c7b0 : decide (t216 < 0) = true := decide_eq_true c7
   clear c7
   obtain rfl := Option.some.inj H
   go_enter Try.func4, Try.ntmps4
   go_wp2_with (first | ((with_reducible refine gate_dst (N := 3) rfl ?_); refine box_event ?hg (N := 3) ?hd (cs := #[.int .i64 a0_0, .slice A0_1 l0_1.length c0_1]) (t := 24) ?hr ?_; (case hd => rfl); (case hg => rfl); (case hr => first | (go_simp; done) | (go_simp; rfl)); intro gb215 hg w8 hbox hb; have n0_ := Aside0.mk (below_step bw hb); have n1_ := Aside0.mk (hbox); have n2_ := Aside0.mk ((by rw [hg]; exact (below_size bw) : w.heap.size ≤ gb215)); have n3_ := Aside0.mk ((by rw [hg]; exact (below_size bw) : w.heap.size ≤ gb215)); clear HB; have HB := n0_; have BK215 := n1_; have GW215 := n2_; have GE215 := n3_; clear n0_ n1_ n2_ n3_; clear hb hbox hg; have hcz9_0 : w8.cell? ⟨gb215, 0, none⟩ = some (.int .i64 a0_0) := (blk_cell BK215.out 0).trans rfl; have hcz9_1 : w8.cell? ⟨gb215, 1, none⟩ = some (.slice A0_1 l0_1.length c0_1) := (blk_cell BK215.out 1).trans rfl; have hfz9_0 := blk_frozen BK215.out 0; have hfz9_1 := blk_frozen BK215.out 1) | ((with_reducible refine gate_callee (f := 10) rfl ?_); refine goesL_ (some 25) rfl rfl Try.func10 (by kernel_rfl) rfl #[.agg #[.int .i64 a0_0, .slice A0_1 l0_1.length c0_1], .int .i64 1048576] rfl (by (try simp only [List.map_toArray, List.map_cons, List.map_nil]); first | done | rfl | (simp only [List.length_drop, List.length_take]; rfl)) ?_; (with_reducible refine (laws_szNet.calls a0_0 _ _ l0_1 1048576 t216 _ ?side1 ?side2 A6.out).mono ?_); (case side1 => exact cb HR0_1); (case side2 => exact HC0_1.out); rintro e w10 ⟨rfl, hb⟩; refine ⟨_, rfl, ?_⟩; have n0_ := bkB BK215 hb; have n1_ := Aside0.mk (below_step bw hb); clear BK215 HB; have BK215 := n0_; have HB := n1_; clear n0_ n1_; (try clear hb); (try clear hb2); (try clear hk); (try clear hi)))
   go_ret
   exact ⟨by first | rfl | (simp [errW_none, errW_some] <;> rfl) | (simp [*, errW_none, errW_some] <;> rfl), bw⟩
  ·rw [if_neg c7] at H
   have c7b0 : decide (t216 < 0) = false := decide_eq_false c7
   clear c7
   replace H := Option.bind_eq_some_iff.mp H
   obtain ⟨t217, A110, H⟩ := H
   replace H : (if t217 < 0 then (some true) else ((laws_toNet.f k a0_0 l0_1).bind fun bt218 => ((laws_toBoolS.f k l1).bind fun t222 => ((laws_toStepS.f k l2).bind fun t225 => ((spec_OrderRun.f k bt218.1 bt218.2 t222 t225).bind fun bt228 => ((laws_toNet.f k a0_0 l0_1).bind fun bt232 => ((laws_toBoolS.f k l1).bind fun t237 => ((laws_toStepS.f k l2).bind fun t240 => ((impl_OrderRun.f k bt232.1 bt232.2 t237 t240).bind fun bt243 => ((laws_eqBoolS.f k bt243.1 bt228.1).bind fun t247 => (if t247 = true then (laws_FnExactOrderRun.j0 k l1 l2 bt228.1 bt228.2 t237 t240 bt243.1 bt243.2 (bt243.2 != bt228.2) a0_0 l0_1 bt232.1 bt232.2) else (laws_FnExactOrderRun.j0 k l1 l2 bt228.1 bt228.2 t237 t240 bt243.1 bt243.2 true a0_0 l0_1 bt232.1 bt232.2)))))))))))) = some r := H
   have A11 := Aside0.mk A110
   clear A110
   by_cases c12 : t217 < 0
   ·rw [if_pos c12] at H
    have c12b0 : decide (t217 < 0) = true := decide_eq_true c12
    clear c12
    obtain rfl := Option.some.inj H
    go_enter Try.func4, Try.ntmps4
    have TK0_ := Aside0.mk trivial
    go_wp2_with (first | (clear TK0_; (with_reducible refine gate_dst (N := 3) rfl ?_); refine box_event ?hg (N := 3) ?hd (cs := #[.int .i64 a0_0, .slice A0_1 l0_1.length c0_1]) (t := 24) ?hr ?_; (case hd => rfl); (case hg => rfl); (case hr => first | (go_simp; done) | (go_simp; rfl)); intro gb215 hg w13 hbox hb; have n0_ := Aside0.mk (below_step bw hb); have n1_ := Aside0.mk (hbox); have n2_ := Aside0.mk ((by rw [hg]; exact (below_size bw) : w.heap.size ≤ gb215)); have n3_ := Aside0.mk ((by rw [hg]; exact (below_size bw) : w.heap.size ≤ gb215)); clear HB; have HB := n0_; have BK215 := n1_; have GW215 := n2_; have GE215 := n3_; clear n0_ n1_ n2_ n3_; clear hb hbox hg; have hcz14_0 : w13.cell? ⟨gb215, 0, none⟩ = some (.int .i64 a0_0) := (blk_cell BK215.out 0).trans rfl; have hcz14_1 : w13.cell? ⟨gb215, 1, none⟩ = some (.slice A0_1 l0_1.length c0_1) := (blk_cell BK215.out 1).trans rfl; have hfz14_0 := blk_frozen BK215.out 0; have hfz14_1 := blk_frozen BK215.out 1; have TK1_ := Aside0.mk trivial) | (clear TK1_; (with_reducible refine gate_callee (f := 10) rfl ?_); refine goesL_ (some 25) rfl rfl Try.func10 (by kernel_rfl) rfl #[.agg #[.int .i64 a0_0, .slice A0_1 l0_1.length c0_1], .int .i64 1048576] rfl (by (try simp only [List.map_toArray, List.map_cons, List.map_nil]); first | done | rfl | (simp only [List.length_drop, List.length_take]; rfl)) ?_; (with_reducible refine (laws_szNet.calls a0_0 _ _ l0_1 1048576 t216 _ ?side1 ?side2 A6.out).mono ?_); (case side1 => exact cb HR0_1); (case side2 => exact HC0_1.out); rintro e w15 ⟨rfl, hb⟩; refine ⟨_, rfl, ?_⟩; have n0_ := bkB BK215 hb; have n1_ := Aside0.mk (below_step bw hb); clear BK215 HB; have BK215 := n0_; have HB := n1_; clear n0_ n1_; (try clear hb); (try clear hb2); (try clear hk); (try clear hi); have TK2_ := Aside0.mk trivial) | (clear TK2_; (with_reducible refine gate_callee (f := 29) rfl ?_); refine goesL_ (some 30) rfl rfl Try.func29 (by kernel_rfl) rfl #[.slice A2 l2.length c2, .int .i64 t216] rfl (by (try simp only [List.map_toArray, List.map_cons, List.map_nil]); first | done | rfl | (simp only [List.length_drop, List.length_take]; rfl)) ?_; (with_reducible refine (laws_szStepS.calls _ _ l2 t216 t217 _ ?side1 ?side2 A11.out).mono ?_); (case side1 => exact cb HR2); (case side2 => exact HC2.out); rintro e w' ⟨rfl, ⟨nd, rfl⟩⟩; refine ⟨_, rfl, ?_⟩; have TK3_ := Aside0.mk trivial))
    go_ret
    exact ⟨by first | rfl | (simp [errW_none, errW_some] <;> rfl) | (simp [*, errW_none, errW_some] <;> rfl), bw⟩
   ·rw [if_neg c12] at H
    have c12b0 : decide (t217 < 0) = false := decide_eq_false c12
    clear c12
    replace H := Option.bind_eq_some_iff.mp H
    obtain ⟨⟨t218, t219⟩, A160, H⟩ := H
    replace H : ((laws_toBoolS.f k l1).bind fun t222 => ((laws_toStepS.f k l2).bind fun t225 => ((spec_OrderRun.f k t218 t219 t222 t225).bind fun bt228 => ((laws_toNet.f k a0_0 l0_1).bind fun bt232 => ((laws_toBoolS.f k l1).bind fun t237 => ((laws_toStepS.f k l2).bind fun t240 => ((impl_OrderRun.f k bt232.1 bt232.2 t237 t240).bind fun bt243 => ((laws_eqBoolS.f k bt243.1 bt228.1).bind fun t247 => (if t247 = true then (laws_FnExactOrderRun.j0 k l1 l2 bt228.1 bt228.2 t237 t240 bt243.1 bt243.2 (bt243.2 != bt228.2) a0_0 l0_1 bt232.1 bt232.2) else (laws_FnExactOrderRun.j0 k l1 l2 bt228.1 bt228.2 t237 t240 bt243.1 bt243.2 true a0_0 l0_1 bt232.1 bt232.2)))))))))) = some r := H
    have A16 := Aside0.mk A160
    clear A160
    replace H := Option.bind_eq_some_iff.mp H
    obtain ⟨t222, A170, H⟩ := H
    replace H : ((laws_toStepS.f k l2).bind fun t225 => ((spec_OrderRun.f k t218 t219 t222 t225).bind fun bt228 => ((laws_toNet.f k a0_0 l0_1).bind fun bt232 => ((laws_toBoolS.f k l1).bind fun t237 => ((laws_toStepS.f k l2).bind fun t240 => ((impl_OrderRun.f k bt232.1 bt232.2 t237 t240).bind fun bt243 => ((laws_eqBoolS.f k bt243.1 bt228.1).bind fun t247 => (if t247 = true then (laws_FnExactOrderRun.j0 k l1 l2 bt228.1 bt228.2 t237 t240 bt243.1 bt243.2 (bt243.2 != bt228.2) a0_0 l0_1 bt232.1 bt232.2) else (laws_FnExactOrderRun.j0 k l1 l2 bt228.1 bt228.2 t237 t240 bt243.1 bt243.2 true a0_0 l0_1 bt232.1 bt232.2))))))))) = some r := H
    have A17 := Aside0.mk A170
    clear A170
    replace H := Option.bind_eq_some_iff.mp H
    obtain ⟨t225, A180, H⟩ := H
    replace H : ((spec_OrderRun.f k t218 t219 t222 t225).bind fun bt228 => ((laws_toNet.f k a0_0 l0_1).bind fun bt232 => ((laws_toBoolS.f k l1).bind fun t237 => ((laws_toStepS.f k l2).bind fun t240 => ((impl_OrderRun.f k bt232.1 bt232.2 t237 t240).bind fun bt243 => ((laws_eqBoolS.f k bt243.1 bt228.1).bind fun t247 => (if t247 = true then (laws_FnExactOrderRun.j0 k l1 l2 bt228.1 bt228.2 t237 t240 bt243.1 bt243.2 (bt243.2 != bt228.2) a0_0 l0_1 bt232.1 bt232.2) else (laws_FnExactOrderRun.j0 k l1 l2 bt228.1 bt228.2 t237 t240 bt243.1 bt243.2 true a0_0 l0_1 bt232.1 bt232.2)))))))) = some r := H
    have A18 := Aside0.mk A180
    clear A180
    replace H := Option.bind_eq_some_iff.mp H
    obtain ⟨⟨t228, t231⟩, A190, H⟩ := H
    replace H : ((laws_toNet.f k a0_0 l0_1).bind fun bt232 => ((laws_toBoolS.f k l1).bind fun t237 => ((laws_toStepS.f k l2).bind fun t240 => ((impl_OrderRun.f k bt232.1 bt232.2 t237 t240).bind fun bt243 => ((laws_eqBoolS.f k bt243.1 t228).bind fun t247 => (if t247 = true then (laws_FnExactOrderRun.j0 k l1 l2 t228 t231 t237 t240 bt243.1 bt243.2 (bt243.2 != t231) a0_0 l0_1 bt232.1 bt232.2) else (laws_FnExactOrderRun.j0 k l1 l2 t228 t231 t237 t240 bt243.1 bt243.2 true a0_0 l0_1 bt232.1 bt232.2))))))) = some r := H
    have A19 := Aside0.mk A190
    clear A190
    replace H := Option.bind_eq_some_iff.mp H
    obtain ⟨⟨t232, t233⟩, A200, H⟩ := H
    replace H : ((laws_toBoolS.f k l1).bind fun t237 => ((laws_toStepS.f k l2).bind fun t240 => ((impl_OrderRun.f k t232 t233 t237 t240).bind fun bt243 => ((laws_eqBoolS.f k bt243.1 t228).bind fun t247 => (if t247 = true then (laws_FnExactOrderRun.j0 k l1 l2 t228 t231 t237 t240 bt243.1 bt243.2 (bt243.2 != t231) a0_0 l0_1 t232 t233) else (laws_FnExactOrderRun.j0 k l1 l2 t228 t231 t237 t240 bt243.1 bt243.2 true a0_0 l0_1 t232 t233)))))) = some r := H
    have A20 := Aside0.mk A200
    clear A200
    replace H := Option.bind_eq_some_iff.mp H
    obtain ⟨t237, A210, H⟩ := H
    replace H : ((laws_toStepS.f k l2).bind fun t240 => ((impl_OrderRun.f k t232 t233 t237 t240).bind fun bt243 => ((laws_eqBoolS.f k bt243.1 t228).bind fun t247 => (if t247 = true then (laws_FnExactOrderRun.j0 k l1 l2 t228 t231 t237 t240 bt243.1 bt243.2 (bt243.2 != t231) a0_0 l0_1 t232 t233) else (laws_FnExactOrderRun.j0 k l1 l2 t228 t231 t237 t240 bt243.1 bt243.2 true a0_0 l0_1 t232 t233))))) = some r := H
    have A21 := Aside0.mk A210
    clear A210
    replace H := Option.bind_eq_some_iff.mp H
    obtain ⟨t240, A220, H⟩ := H
    replace H : ((impl_OrderRun.f k t232 t233 t237 t240).bind fun bt243 => ((laws_eqBoolS.f k bt243.1 t228).bind fun t247 => (if t247 = true then (laws_FnExactOrderRun.j0 k l1 l2 t228 t231 t237 t240 bt243.1 bt243.2 (bt243.2 != t231) a0_0 l0_1 t232 t233) else (laws_FnExactOrderRun.j0 k l1 l2 t228 t231 t237 t240 bt243.1 bt243.2 true a0_0 l0_1 t232 t233)))) = some r := H
    have A22 := Aside0.mk A220
    clear A220
    replace H := Option.bind_eq_some_iff.mp H
    obtain ⟨⟨t243, t246⟩, A230, H⟩ := H
    replace H : ((laws_eqBoolS.f k t243 t228).bind fun t247 => (if t247 = true then (laws_FnExactOrderRun.j0 k l1 l2 t228 t231 t237 t240 t243 t246 (t246 != t231) a0_0 l0_1 t232 t233) else (laws_FnExactOrderRun.j0 k l1 l2 t228 t231 t237 t240 t243 t246 true a0_0 l0_1 t232 t233))) = some r := H
    have A23 := Aside0.mk A230
    clear A230
    have HC24 := Aside0.mk H
    clear H
    go_enter Try.func4, Try.ntmps4
    have TK0_ := Aside0.mk trivial
    go_upto_region 15 with (first | (clear TK0_; (with_reducible refine gate_dst (N := 3) rfl ?_); refine box_event ?hg (N := 3) ?hd (cs := #[.int .i64 a0_0, .slice A0_1 l0_1.length c0_1]) (t := 24) ?hr ?_; (case hd => rfl); (case hg => rfl); (case hr => first | (go_simp; done) | (go_simp; rfl)); intro gb215 hg w25 hbox hb; have n0_ := Aside0.mk (below_step bw hb); have n1_ := Aside0.mk (hbox); have n2_ := Aside0.mk ((by rw [hg]; exact (below_size bw) : w.heap.size ≤ gb215)); have n3_ := Aside0.mk ((by rw [hg]; exact (below_size bw) : w.heap.size ≤ gb215)); clear HB; have HB := n0_; have BK215 := n1_; have GW215 := n2_; have GE215 := n3_; clear n0_ n1_ n2_ n3_; clear hb hbox hg; have hcz26_0 : w25.cell? ⟨gb215, 0, none⟩ = some (.int .i64 a0_0) := (blk_cell BK215.out 0).trans rfl; have hcz26_1 : w25.cell? ⟨gb215, 1, none⟩ = some (.slice A0_1 l0_1.length c0_1) := (blk_cell BK215.out 1).trans rfl; have hfz26_0 := blk_frozen BK215.out 0; have hfz26_1 := blk_frozen BK215.out 1; have TK1_ := Aside0.mk trivial) | (clear TK1_; (with_reducible refine gate_callee (f := 10) rfl ?_); refine goesL_ (some 25) rfl rfl Try.func10 (by kernel_rfl) rfl #[.agg #[.int .i64 a0_0, .slice A0_1 l0_1.length c0_1], .int .i64 1048576] rfl (by (try simp only [List.map_toArray, List.map_cons, List.map_nil]); first | done | rfl | (simp only [List.length_drop, List.length_take]; rfl)) ?_; (with_reducible refine (laws_szNet.calls a0_0 _ _ l0_1 1048576 t216 _ ?side1 ?side2 A6.out).mono ?_); (case side1 => exact cb HR0_1); (case side2 => exact HC0_1.out); rintro e w27 ⟨rfl, hb⟩; refine ⟨_, rfl, ?_⟩; have n0_ := bkB BK215 hb; have n1_ := Aside0.mk (below_step bw hb); clear BK215 HB; have BK215 := n0_; have HB := n1_; clear n0_ n1_; (try clear hb); (try clear hb2); (try clear hk); (try clear hi); have TK2_ := Aside0.mk trivial) | (clear TK2_; (with_reducible refine gate_callee (f := 29) rfl ?_); refine goesL_ (some 30) rfl rfl Try.func29 (by kernel_rfl) rfl #[.slice A2 l2.length c2, .int .i64 t216] rfl (by (try simp only [List.map_toArray, List.map_cons, List.map_nil]); first | done | rfl | (simp only [List.length_drop, List.length_take]; rfl)) ?_; (with_reducible refine (laws_szStepS.calls _ _ l2 t216 t217 _ ?side1 ?side2 A11.out).mono ?_); (case side1 => exact cb HR2); (case side2 => exact HC2.out); rintro e w' ⟨rfl, ⟨nd, rfl⟩⟩; refine ⟨_, rfl, ?_⟩; (try (rw [drewN_self w27]; generalize hq_ : World.drewN w27 _ = w27; have n0_ : Aside0 (w27.heap[gb215]? = some (.cells #[.int .i64 a0_0, .slice A0_1 l0_1.length c0_1] 24 (0, 0))) := ⟨by rw [← hq_]; exact (bk BK215)⟩; have n1_ : Aside0 (Below w.heap.size w w27) := ⟨by rw [← hq_]; exact bw⟩; clear BK215 HB hq_; have BK215 := n0_; have HB := n1_; clear n0_ n1_)); have hcz28_0 : w27.cell? ⟨gb215, 0, none⟩ = some (.int .i64 a0_0) := (blk_cell BK215.out 0).trans rfl; have hcz28_1 : w27.cell? ⟨gb215, 1, none⟩ = some (.slice A0_1 l0_1.length c0_1) := (blk_cell BK215.out 1).trans rfl; have hfz28_0 := blk_frozen BK215.out 0; have hfz28_1 := blk_frozen BK215.out 1; have TK3_ := Aside0.mk trivial) | (clear TK3_; (with_reducible refine gate_callee (f := 13) rfl ?_); refine goesL_ (some 35) rfl rfl Try.func13 (by kernel_rfl) rfl #[.agg #[.int .i64 a0_0, .slice A0_1 l0_1.length c0_1]] rfl (by (try simp only [List.map_toArray, List.map_cons, List.map_nil]); first | done | rfl | (simp only [List.length_drop, List.length_take]; rfl)) ?_; (with_reducible refine (laws_toNet.calls k a0_0 _ _ l0_1 t218 t219 _ ?side1 ?side2 A16.out).mono ?_); (case side1 => exact cb HR0_1); (case side2 => exact HC0_1.out); rintro e w29 ⟨v220, rfl, ho0, hb⟩; refine ⟨_, rfl, ?_⟩; have n0_ := Aside0.mk (Kd.R_lower ho0 (below_size bw)); have n1_ := bkB BK215 hb; have n2_ := Aside0.mk (below_step bw hb); clear BK215 HB; have HO221 := n0_; have BK215 := n1_; have HB := n2_; clear n0_ n1_ n2_; (try clear hb); (try clear hb2); (try clear hk); (try clear hi); (try clear ho0); have TK4_ := Aside0.mk trivial) | (clear TK4_; (with_reducible refine gate_callee (f := 14) rfl ?_); refine goesL_ (some 37) rfl rfl Try.func14 (by kernel_rfl) rfl #[.slice A1 l1.length c1] rfl (by (try simp only [List.map_toArray, List.map_cons, List.map_nil]); first | done | rfl | (simp only [List.length_drop, List.length_take]; rfl)) ?_; (with_reducible refine (laws_toBoolS.calls k _ _ l1 t222 _ ?side1 ?side2 A17.out).mono ?_); (case side1 => exact cb HR1); (case side2 => exact HC1.out); rintro e w30 ⟨v223, rfl, ho0, hb⟩; refine ⟨_, rfl, ?_⟩; have n0_ := rB HO221 hb; have n1_ := Aside0.mk (Kd.R_lower ho0 (below_size bw)); have n2_ := bkB BK215 hb; have n3_ := Aside0.mk (below_step bw hb); clear HO221 BK215 HB; have HO221 := n0_; have HO224 := n1_; have BK215 := n2_; have HB := n3_; clear n0_ n1_ n2_ n3_; (try clear hb); (try clear hb2); (try clear hk); (try clear hi); (try clear ho0); have TK5_ := Aside0.mk trivial) | (clear TK5_; (with_reducible refine gate_callee (f := 31) rfl ?_); refine goesL_ (some 39) rfl rfl Try.func31 (by kernel_rfl) rfl #[.slice A2 l2.length c2] rfl (by (try simp only [List.map_toArray, List.map_cons, List.map_nil]); first | done | rfl | (simp only [List.length_drop, List.length_take]; rfl)) ?_; (with_reducible refine (laws_toStepS.calls k _ _ l2 t225 _ ?side1 ?side2 A18.out).mono ?_); (case side1 => exact cb HR2); (case side2 => exact HC2.out); rintro e w31 ⟨v226, rfl, ho0, hb⟩; refine ⟨_, rfl, ?_⟩; have n0_ := rB HO221 hb; have n1_ := rB HO224 hb; have n2_ := Aside0.mk (Kd.R_lower ho0 (below_size bw)); have n3_ := bkB BK215 hb; have n4_ := Aside0.mk (below_step bw hb); clear HO221 HO224 BK215 HB; have HO221 := n0_; have HO224 := n1_; have HO227 := n2_; have BK215 := n3_; have HB := n4_; clear n0_ n1_ n2_ n3_ n4_; (try clear hb); (try clear hb2); (try clear hk); (try clear hi); (try clear ho0); obtain ⟨Ao32, co32, eo32⟩ := Kd.R_slice HO221.out; subst eo32; obtain ⟨Ao33, co33, eo33⟩ := Kd.R_slice HO224.out; subst eo33; obtain ⟨Ao34, co34, eo34⟩ := Kd.R_slice HO227.out; subst eo34; have TK6_ := Aside0.mk trivial) | (clear TK6_; (with_reducible refine gate_callee (f := 30) rfl ?_); refine goesL_ (some 40) rfl rfl Try.func30 (by kernel_rfl) rfl #[.agg #[.int .i64 t218, .slice Ao32 t219.length co32], .slice Ao33 t222.length co33, .slice Ao34 t225.length co34] rfl (by (try simp only [List.map_toArray, List.map_cons, List.map_nil]); first | done | rfl | (simp only [List.length_drop, List.length_take]; rfl)) ?_; (with_reducible refine (spec_OrderRun.calls k t218 _ _ t219 _ _ t222 _ _ t225 t228 t231 _ ?side1 ?side2 ?side3 ?side4 ?side5 ?side6 A19.out).mono ?_); (case side1 => repeat (first | exact (Kd.R_reads' HO221.out).2.2 | (with_reducible refine Kd.C_alloc ?_ _) | (with_reducible refine Kd.C_drewN ?_ _) | (with_reducible refine Kd.C_drew ?_))); (case side2 => exact (Kd.R_reads' HO221.out).2.1); (case side3 => repeat (first | exact (Kd.R_reads' HO224.out).2.2 | (with_reducible refine Kd.C_alloc ?_ _) | (with_reducible refine Kd.C_drewN ?_ _) | (with_reducible refine Kd.C_drew ?_))); (case side4 => exact (Kd.R_reads' HO224.out).2.1); (case side5 => repeat (first | exact (Kd.R_reads' HO227.out).2.2 | (with_reducible refine Kd.C_alloc ?_ _) | (with_reducible refine Kd.C_drewN ?_ _) | (with_reducible refine Kd.C_drew ?_))); (case side6 => exact (Kd.R_reads' HO227.out).2.1); rintro e w35 ⟨v229, rfl, ho0, hb⟩; refine ⟨_, rfl, ?_⟩; have n0_ := rB HO221 hb; have n1_ := Aside0.mk (Kd.R_elder' (rk HO224) (Kd.R_base ho0) hb); have n2_ := rB HO227 hb; have n3_ := Aside0.mk (Kd.R_lower (Kd.R_new' ho0 (Kd.R_lt (rk HO224))) (below_size bw)); have n4_ := bkB BK215 hb; have n5_ := Aside0.mk (below_step bw hb); clear HO221 HO224 HO227 BK215 HB; have HO221 := n0_; have HO224 := n1_; have HO227 := n2_; have HO230 := n3_; have BK215 := n4_; have HB := n5_; clear n0_ n1_ n2_ n3_ n4_ n5_; (try clear hb); (try clear hb2); (try clear hk); (try clear hi); (try clear ho0); have hcz36_0 : w35.cell? ⟨gb215, 0, none⟩ = some (.int .i64 a0_0) := (blk_cell BK215.out 0).trans rfl; have hcz36_1 : w35.cell? ⟨gb215, 1, none⟩ = some (.slice A0_1 l0_1.length c0_1) := (blk_cell BK215.out 1).trans rfl; have hfz36_0 := blk_frozen BK215.out 0; have hfz36_1 := blk_frozen BK215.out 1; have TK7_ := Aside0.mk trivial) | (clear TK7_; (with_reducible refine gate_callee (f := 13) rfl ?_); refine goesL_ (some 44) rfl rfl Try.func13 (by kernel_rfl) rfl #[.agg #[.int .i64 a0_0, .slice A0_1 l0_1.length c0_1]] rfl (by (try simp only [List.map_toArray, List.map_cons, List.map_nil]); first | done | rfl | (simp only [List.length_drop, List.length_take]; rfl)) ?_; (with_reducible refine (laws_toNet.calls k a0_0 _ _ l0_1 t232 t233 _ ?side1 ?side2 A20.out).mono ?_); (case side1 => exact cb HR0_1); (case side2 => exact HC0_1.out); rintro e w37 ⟨v234, rfl, ho0, hb⟩; refine ⟨_, rfl, ?_⟩; have n0_ := Aside0.mk (Kd.R_elder' (rk HO221) (Kd.R_base ho0) hb); have n1_ := rB HO224 hb; have n2_ := rB HO227 hb; have n3_ := rB HO230 hb; have n4_ := Aside0.mk (Kd.R_lower (Kd.R_new' ho0 (Kd.R_lt (rk HO221))) (below_size bw)); have n5_ := bkB BK215 hb; have n6_ := Aside0.mk (below_step bw hb); clear HO221 HO224 HO227 HO230 BK215 HB; have HO221 := n0_; have HO224 := n1_; have HO227 := n2_; have HO230 := n3_; have HO235 := n4_; have BK215 := n5_; have HB := n6_; clear n0_ n1_ n2_ n3_ n4_ n5_ n6_; (try clear hb); (try clear hb2); (try clear hk); (try clear hi); (try clear ho0); have TK8_ := Aside0.mk trivial) | (clear TK8_; (with_reducible refine gate_dst (N := 10) rfl ?_); refine box_event ?hg (N := 10) ?hd (cs := #[.int .i64 0, .slice none 0 0]) (t := 35) ?hr ?_; (case hd => rfl); (case hg => rfl); (case hr => first | (go_simp; done) | (go_simp; rfl)); intro gb236 hg w38 hbox hb; have n0_ := rB HO221 hb; have n1_ := rB HO224 hb; have n2_ := rB HO227 hb; have n3_ := rB HO230 hb; have n4_ := rB HO235 hb; have n5_ := bkB BK215 hb; have n6_ := Aside0.mk (below_step bw hb); have n7_ := Aside0.mk (hbox); have n8_ := Aside0.mk ((by rw [hg]; exact (below_size bw) : w.heap.size ≤ gb236)); have n9_ := Aside0.mk ((by rw [hg]; exact (below_size bw) : w.heap.size ≤ gb236)); have n10_ := Aside0.mk ((by rw [hg]; exact Nat.ne_of_lt (blk_lt (g := gb215) (o := .cells #[.int .i64 a0_0, .slice A0_1 l0_1.length c0_1] 24 (0, 0)) (bk BK215)) : gb215 ≠ gb236)); have n11_ := Aside0.mk ((by rw [hg]; exact Nat.ne_of_gt (blk_lt (g := gb215) (o := .cells #[.int .i64 a0_0, .slice A0_1 l0_1.length c0_1] 24 (0, 0)) (bk BK215)) : gb236 ≠ gb215)); clear HO221 HO224 HO227 HO230 HO235 BK215 HB; have HO221 := n0_; have HO224 := n1_; have HO227 := n2_; have HO230 := n3_; have HO235 := n4_; have BK215 := n5_; have HB := n6_; have BK236 := n7_; have GW236 := n8_; have GE236 := n9_; have NB215_236 := n10_; have NB236_215 := n11_; clear n0_ n1_ n2_ n3_ n4_ n5_ n6_ n7_ n8_ n9_ n10_ n11_; clear hb hbox hg; have hnb39 := NB236_215.out; have hnc39 := NB215_236.out; have hcz40_0 : w38.cell? ⟨gb236, 0, none⟩ = some (.int .i64 0) := (blk_cell BK236.out 0).trans rfl; have hcz40_1 : w38.cell? ⟨gb236, 1, none⟩ = some (.slice none 0 0) := (blk_cell BK236.out 1).trans rfl; have hfz40_0 := blk_frozen BK236.out 0; have hfz40_1 := blk_frozen BK236.out 1; obtain ⟨Ao41, co41, eo41⟩ := Kd.R_slice HO235.out; subst eo41; have TK9_ := Aside0.mk trivial) | (clear TK9_; (with_reducible refine gate_callee (f := 14) rfl ?_); refine goesL_ (some 46) rfl rfl Try.func14 (by kernel_rfl) rfl #[.slice A1 l1.length c1] rfl (by (try simp only [List.map_toArray, List.map_cons, List.map_nil]); first | done | rfl | (simp only [List.length_drop, List.length_take]; rfl)) ?_; (with_reducible refine (laws_toBoolS.calls k _ _ l1 t237 _ ?side1 ?side2 A21.out).mono ?_); (case side1 => exact Kd.C_below HR1.out bw); (case side2 => exact HC1.out); rintro e w42 ⟨v238, rfl, ho0, hb⟩; refine ⟨_, rfl, ?_⟩; have n0_ := Aside0.mk (Kd.R_below (by (with_reducible repeat (first | apply Kd.R_alloc | apply Kd.R_drewN | apply Kd.R_drew)); exact (Kd.R_mono (Kd.R_far (p := ⟨gb236, 1, none⟩) (Kd.R_far (p := ⟨gb236, 0, none⟩) (Kd.R_types HO221.out BK236.out (by decide)) (fun _ hk => by first | exact hk.2 | grind) (.int .i64 t232)) (fun _ hk => by first | exact hk.2 | grind) (.slice Ao41 t233.length co41)) (fun _ h_ => h_.1))) hb); have n1_ := Aside0.mk (Kd.R_elder' (by (with_reducible repeat (first | apply Kd.R_alloc | apply Kd.R_drewN | apply Kd.R_drew)); exact (Kd.R_mono (Kd.R_far (p := ⟨gb236, 1, none⟩) (Kd.R_far (p := ⟨gb236, 0, none⟩) (Kd.R_types HO224.out BK236.out (by decide)) (fun _ hk => by first | exact hk.2 | grind) (.int .i64 t232)) (fun _ hk => by first | exact hk.2 | grind) (.slice Ao41 t233.length co41)) (fun _ h_ => h_.1))) (Kd.R_base ho0) hb); have n2_ := Aside0.mk (Kd.R_below (by (with_reducible repeat (first | apply Kd.R_alloc | apply Kd.R_drewN | apply Kd.R_drew)); exact (Kd.R_mono (Kd.R_far (p := ⟨gb236, 1, none⟩) (Kd.R_far (p := ⟨gb236, 0, none⟩) (Kd.R_types HO227.out BK236.out (by decide)) (fun _ hk => by first | exact hk.2 | grind) (.int .i64 t232)) (fun _ hk => by first | exact hk.2 | grind) (.slice Ao41 t233.length co41)) (fun _ h_ => h_.1))) hb); have n3_ := Aside0.mk (Kd.R_elder' (by (with_reducible repeat (first | apply Kd.R_alloc | apply Kd.R_drewN | apply Kd.R_drew)); exact (Kd.R_mono (Kd.R_far (p := ⟨gb236, 1, none⟩) (Kd.R_far (p := ⟨gb236, 0, none⟩) (Kd.R_types HO230.out BK236.out (by decide)) (fun _ hk => by first | exact hk.2 | grind) (.int .i64 t232)) (fun _ hk => by first | exact hk.2 | grind) (.slice Ao41 t233.length co41)) (fun _ h_ => h_.1))) (Kd.R_base ho0) hb); have n4_ := Aside0.mk (Kd.R_below (by (with_reducible repeat (first | apply Kd.R_alloc | apply Kd.R_drewN | apply Kd.R_drew)); exact (Kd.R_mono (Kd.R_far (p := ⟨gb236, 1, none⟩) (Kd.R_far (p := ⟨gb236, 0, none⟩) (Kd.R_types HO235.out BK236.out (by decide)) (fun _ hk => by first | exact hk.2 | grind) (.int .i64 t232)) (fun _ hk => by first | exact hk.2 | grind) (.slice Ao41 t233.length co41)) (fun _ h_ => h_.1))) hb); have n5_ := Aside0.mk (Kd.R_lower (Kd.R_new' (Kd.R_new' ho0 (Kd.R_lt (by (with_reducible repeat (first | apply Kd.R_alloc | apply Kd.R_drewN | apply Kd.R_drew)); exact (Kd.R_mono (Kd.R_far (p := ⟨gb236, 1, none⟩) (Kd.R_far (p := ⟨gb236, 0, none⟩) (Kd.R_types HO224.out BK236.out (by decide)) (fun _ hk => by first | exact hk.2 | grind) (.int .i64 t232)) (fun _ hk => by first | exact hk.2 | grind) (.slice Ao41 t233.length co41)) (fun _ h_ => h_.1))))) (Kd.R_lt (by (with_reducible repeat (first | apply Kd.R_alloc | apply Kd.R_drewN | apply Kd.R_drew)); exact (Kd.R_mono (Kd.R_far (p := ⟨gb236, 1, none⟩) (Kd.R_far (p := ⟨gb236, 0, none⟩) (Kd.R_types HO230.out BK236.out (by decide)) (fun _ hk => by first | exact hk.2 | grind) (.int .i64 t232)) (fun _ hk => by first | exact hk.2 | grind) (.slice Ao41 t233.length co41)) (fun _ h_ => h_.1))))) (below_size bw)); have n6_ := Aside0.mk (blk_below (g := gb215) (o := .cells #[.int .i64 a0_0, .slice A0_1 l0_1.length c0_1] 24 (0, 0)) (by (with_reducible repeat (first | refine blk_drewN ?_ _ | refine blk_drew ?_ | refine blk_alloc ?_ _)); refine blk_far ?_ NB215_236.out _; (with_reducible repeat (first | refine blk_drewN ?_ _ | refine blk_drew ?_ | refine blk_alloc ?_ _)); refine blk_far ?_ NB215_236.out _; (with_reducible repeat (first | refine blk_drewN ?_ _ | refine blk_drew ?_ | refine blk_alloc ?_ _)); exact BK215.out) hb); have n7_ := Aside0.mk (blk_below (g := gb236) (o := .cells #[.int .i64 t232, .slice Ao41 t233.length co41] 35 (0, 0)) (by (with_reducible repeat (first | refine blk_drewN ?_ _ | refine blk_drew ?_ | refine blk_alloc ?_ _)); refine blk_put (cs := #[.int .i64 t232, .slice none 0 0]) ?_ 1 _ rfl; (with_reducible repeat (first | refine blk_drewN ?_ _ | refine blk_drew ?_ | refine blk_alloc ?_ _)); refine blk_put (cs := #[.int .i64 0, .slice none 0 0]) ?_ 0 _ rfl; (with_reducible repeat (first | refine blk_drewN ?_ _ | refine blk_drew ?_ | refine blk_alloc ?_ _)); exact BK236.out) hb); have n8_ := Aside0.mk (below_step bw hb); clear HO221 HO224 HO227 HO230 HO235 BK215 BK236 HB; have HO221 := n0_; have HO224 := n1_; have HO227 := n2_; have HO230 := n3_; have HO235 := n4_; have HO239 := n5_; have BK215 := n6_; have BK236 := n7_; have HB := n8_; clear n0_ n1_ n2_ n3_ n4_ n5_ n6_ n7_ n8_; (try clear hb); (try clear hb2); (try clear hk); (try clear hi); (try clear ho0); have TK10_ := Aside0.mk trivial) | (clear TK10_; (with_reducible refine gate_callee (f := 31) rfl ?_); refine goesL_ (some 48) rfl rfl Try.func31 (by kernel_rfl) rfl #[.slice A2 l2.length c2] rfl (by (try simp only [List.map_toArray, List.map_cons, List.map_nil]); first | done | rfl | (simp only [List.length_drop, List.length_take]; rfl)) ?_; (with_reducible refine (laws_toStepS.calls k _ _ l2 t240 _ ?side1 ?side2 A22.out).mono ?_); (case side1 => exact cb HR2); (case side2 => exact HC2.out); rintro e w43 ⟨v241, rfl, ho0, hb⟩; refine ⟨_, rfl, ?_⟩; have n0_ := rB HO221 hb; have n1_ := rB HO224 hb; have n2_ := Aside0.mk (Kd.R_elder' (rk HO227) (Kd.R_base ho0) hb); have n3_ := rB HO230 hb; have n4_ := rB HO235 hb; have n5_ := rB HO239 hb; have n6_ := Aside0.mk (Kd.R_lower (Kd.R_new' ho0 (Kd.R_lt (rk HO227))) (below_size bw)); have n7_ := bkB BK215 hb; have n8_ := bkB BK236 hb; have n9_ := Aside0.mk (below_step bw hb); clear HO221 HO224 HO227 HO230 HO235 HO239 BK215 BK236 HB; have HO221 := n0_; have HO224 := n1_; have HO227 := n2_; have HO230 := n3_; have HO235 := n4_; have HO239 := n5_; have HO242 := n6_; have BK215 := n7_; have BK236 := n8_; have HB := n9_; clear n0_ n1_ n2_ n3_ n4_ n5_ n6_ n7_ n8_ n9_; (try clear hb); (try clear hb2); (try clear hk); (try clear hi); (try clear ho0); have hcz44_0 : w43.cell? ⟨gb236, 0, none⟩ = some (.int .i64 t232) := (blk_cell BK236.out 0).trans rfl; have hcz44_1 : w43.cell? ⟨gb236, 1, none⟩ = some (.slice Ao41 t233.length co41) := (blk_cell BK236.out 1).trans rfl; have hfz44_0 := blk_frozen BK236.out 0; have hfz44_1 := blk_frozen BK236.out 1; obtain ⟨Ao45, co45, eo45⟩ := Kd.R_slice HO239.out; subst eo45; obtain ⟨Ao46, co46, eo46⟩ := Kd.R_slice HO242.out; subst eo46; have TK11_ := Aside0.mk trivial) | (clear TK11_; (with_reducible refine gate_callee (f := 32) rfl ?_); refine goesL_ (some 53) rfl rfl Try.func32 (by kernel_rfl) rfl #[.agg #[.int .i64 t232, .slice Ao41 t233.length co41], .slice Ao45 t237.length co45, .slice Ao46 t240.length co46] rfl (by (try simp only [List.map_toArray, List.map_cons, List.map_nil]); first | done | rfl | (simp only [List.length_drop, List.length_take]; rfl)) ?_; (with_reducible refine (impl_OrderRun.calls k t232 _ _ t233 _ _ t237 _ _ t240 t243 t246 _ ?side1 ?side2 ?side3 ?side4 ?side5 ?side6 A23.out).mono ?_); (case side1 => repeat (first | exact (Kd.R_reads' HO235.out).2.2 | (with_reducible refine Kd.C_alloc ?_ _) | (with_reducible refine Kd.C_drewN ?_ _) | (with_reducible refine Kd.C_drew ?_))); (case side2 => exact (Kd.R_reads' HO235.out).2.1); (case side3 => repeat (first | exact (Kd.R_reads' HO239.out).2.2 | (with_reducible refine Kd.C_alloc ?_ _) | (with_reducible refine Kd.C_drewN ?_ _) | (with_reducible refine Kd.C_drew ?_))); (case side4 => exact (Kd.R_reads' HO239.out).2.1); (case side5 => repeat (first | exact (Kd.R_reads' HO242.out).2.2 | (with_reducible refine Kd.C_alloc ?_ _) | (with_reducible refine Kd.C_drewN ?_ _) | (with_reducible refine Kd.C_drew ?_))); (case side6 => exact (Kd.R_reads' HO242.out).2.1); rintro e w47 ⟨v244, rfl, ho0, hb⟩; refine ⟨_, rfl, ?_⟩; have n0_ := rB HO221 hb; have n1_ := Aside0.mk (Kd.R_elder' (rk HO224) (Kd.R_base ho0) hb); have n2_ := rB HO227 hb; have n3_ := Aside0.mk (Kd.R_elder' (rk HO230) (Kd.R_base ho0) hb); have n4_ := rB HO235 hb; have n5_ := Aside0.mk (Kd.R_elder' (rk HO239) (Kd.R_base ho0) hb); have n6_ := rB HO242 hb; have n7_ := Aside0.mk (Kd.R_lower (Kd.R_new' (Kd.R_new' (Kd.R_new' ho0 (Kd.R_lt (rk HO224))) (Kd.R_lt (rk HO230))) (Kd.R_lt (rk HO239))) (below_size bw)); have n8_ := bkB BK215 hb; have n9_ := bkB BK236 hb; have n10_ := Aside0.mk (below_step bw hb); clear HO221 HO224 HO227 HO230 HO235 HO239 HO242 BK215 BK236 HB; have HO221 := n0_; have HO224 := n1_; have HO227 := n2_; have HO230 := n3_; have HO235 := n4_; have HO239 := n5_; have HO242 := n6_; have HO245 := n7_; have BK215 := n8_; have BK236 := n9_; have HB := n10_; clear n0_ n1_ n2_ n3_ n4_ n5_ n6_ n7_ n8_ n9_ n10_; (try clear hb); (try clear hb2); (try clear hk); (try clear hi); (try clear ho0); have TK12_ := Aside0.mk trivial))
    (try simp only [Act.put, List.setIfInBounds_toArray, List.set_cons_zero, List.set_cons_succ])
    go_cut [64] (fun v64 wc => ∃ (kq : Nat) (x64_23 : Bool), v64 = .bool x64_23 ∧ Aside0 (laws_FnExactOrderRun.j0 kq l1 l2 t228 t231 t237 t240 t243 t246 x64_23 a0_0 l0_1 t232 t233 = some r) ∧ Aside0 (kq ≤ k) ∧ Aside0 (Kd.R Kd.bool 4 wc w.heap.size (fun k_ => some k_ ≠ ((.slice Ao45 t237.length co45) : Value).ownBlock ∧ some k_ ≠ (v244 : Value).ownBlock) v229 t228) ∧ Aside0 (Kd.R Kd.bool 4 wc w.heap.size (fun k_ => some k_ ≠ (v229 : Value).ownBlock ∧ some k_ ≠ (v244 : Value).ownBlock) (.slice Ao45 t237.length co45) t237) ∧ Aside0 (Kd.R k98 98 wc w.heap.size (fun _ => True) (.slice Ao46 t240.length co46) t240) ∧ Aside0 (Kd.R Kd.bool 4 wc w.heap.size (fun k_ => some k_ ≠ (v229 : Value).ownBlock ∧ some k_ ≠ ((.slice Ao45 t237.length co45) : Value).ownBlock) v244 t243) ∧ Aside0 (Kd.R k139 139 wc w.heap.size (fun _ => True) (.slice Ao41 t233.length co41) t233) ∧ Aside0 (wc.heap[gb215]? = some (.cells #[.int .i64 a0_0, (.slice A0_1 l0_1.length c0_1)] 24 (0, 0))) ∧ Aside0 (wc.heap[gb236]? = some (.cells #[.int .i64 t232, (.slice Ao41 t233.length co41)] 35 (0, 0))) ∧ Aside0 (Below w.heap.size w wc))
    case first =>
     have H := HC24.out
     clear HC24
     replace H := Option.bind_eq_some_iff.mp H
     obtain ⟨t247, A480, H⟩ := H
     replace H : (if t247 = true then (laws_FnExactOrderRun.j0 k l1 l2 t228 t231 t237 t240 t243 t246 (t246 != t231) a0_0 l0_1 t232 t233) else (laws_FnExactOrderRun.j0 k l1 l2 t228 t231 t237 t240 t243 t246 true a0_0 l0_1 t232 t233)) = some r := H
     have A48 := Aside0.mk A480
     clear A480
     by_cases c49 : t247 = true
     ·subst c49
      have H1 : (laws_FnExactOrderRun.j0 k l1 l2 t228 t231 t237 t240 t243 t246 (t246 != t231) a0_0 l0_1 t232 t233) = some r := by rw [if_pos rfl] at H; exact H
      clear H
      have H := H1
      clear H1
      have H' := Aside0.mk H
      clear H
      obtain ⟨Ao50, co50, eo50⟩ := Kd.R_slice HO245.out
      subst eo50
      obtain ⟨Ao51, co51, eo51⟩ := Kd.R_slice HO230.out
      subst eo51
      go_wp2_with (first | ((with_reducible refine gate_callee (f := 20) rfl ?_); refine goesL_ (some 58) rfl rfl Try.func20 (by kernel_rfl) rfl #[.slice Ao50 t243.length co50, .slice Ao51 t228.length co51] rfl (by (try simp only [List.map_toArray, List.map_cons, List.map_nil]); first | done | rfl | (simp only [List.length_drop, List.length_take]; rfl)) ?_; (with_reducible refine (laws_eqBoolS.calls k _ _ t243 _ _ t228 true _ ?side1 ?side2 ?side3 ?side4 A48.out).mono ?_); (case side1 => repeat (first | exact (Kd.R_reads' HO245.out).2.2 | (with_reducible refine Kd.C_alloc ?_ _) | (with_reducible refine Kd.C_drewN ?_ _) | (with_reducible refine Kd.C_drew ?_))); (case side2 => exact (Kd.R_reads' HO245.out).2.1); (case side3 => repeat (first | exact (Kd.R_reads' HO230.out).2.2 | (with_reducible refine Kd.C_alloc ?_ _) | (with_reducible refine Kd.C_drewN ?_ _) | (with_reducible refine Kd.C_drew ?_))); (case side4 => exact (Kd.R_reads' HO230.out).2.1); rintro e w' ⟨rfl, ⟨nd, rfl⟩⟩; refine ⟨_, rfl, ?_⟩))
      go_meet
      case rel => exact ⟨_, ((t246 != t231)), (by first | rfl | (simp; done) | (simp [*]; done)), H', ⟨by first | omega | exact Nat.le_refl _⟩, ⟨by (with_reducible repeat (first | apply Kd.R_alloc | apply Kd.R_drewN | apply Kd.R_drew)); exact Kd.R_mono HO230.out (fun _ hk => by first | exact ⟨hk.1.2, hk.2⟩ | grind)⟩, ⟨by (with_reducible repeat (first | apply Kd.R_alloc | apply Kd.R_drewN | apply Kd.R_drew)); exact Kd.R_mono HO239.out (fun _ hk => by first | exact ⟨hk.1.2, hk.2⟩ | grind)⟩, ⟨by (with_reducible repeat (first | apply Kd.R_alloc | apply Kd.R_drewN | apply Kd.R_drew)); exact Kd.R_mono HO242.out (fun _ hk => trivial)⟩, ⟨by (with_reducible repeat (first | apply Kd.R_alloc | apply Kd.R_drewN | apply Kd.R_drew)); exact Kd.R_mono HO245.out (fun _ hk => by first | exact ⟨hk.1.2, hk.2⟩ | grind)⟩, ⟨by (with_reducible repeat (first | apply Kd.R_alloc | apply Kd.R_drewN | apply Kd.R_drew)); exact Kd.R_mono HO235.out (fun _ hk => trivial)⟩, ⟨bk BK215⟩, ⟨bk BK236⟩, ⟨bw⟩⟩
     ·replace c49 := Bool.eq_false_iff.mpr c49
      subst c49
      have H1 : (laws_FnExactOrderRun.j0 k l1 l2 t228 t231 t237 t240 t243 t246 true a0_0 l0_1 t232 t233) = some r := by rw [if_neg (show ¬ (false = true) by decide)] at H; exact H
      clear H
      have H := H1
      clear H1
      have H' := Aside0.mk H
      clear H
      obtain ⟨Ao52, co52, eo52⟩ := Kd.R_slice HO245.out
      subst eo52
      obtain ⟨Ao53, co53, eo53⟩ := Kd.R_slice HO230.out
      subst eo53
      go_wp2_with (first | ((with_reducible refine gate_callee (f := 20) rfl ?_); refine goesL_ (some 58) rfl rfl Try.func20 (by kernel_rfl) rfl #[.slice Ao52 t243.length co52, .slice Ao53 t228.length co53] rfl (by (try simp only [List.map_toArray, List.map_cons, List.map_nil]); first | done | rfl | (simp only [List.length_drop, List.length_take]; rfl)) ?_; (with_reducible refine (laws_eqBoolS.calls k _ _ t243 _ _ t228 false _ ?side1 ?side2 ?side3 ?side4 A48.out).mono ?_); (case side1 => repeat (first | exact (Kd.R_reads' HO245.out).2.2 | (with_reducible refine Kd.C_alloc ?_ _) | (with_reducible refine Kd.C_drewN ?_ _) | (with_reducible refine Kd.C_drew ?_))); (case side2 => exact (Kd.R_reads' HO245.out).2.1); (case side3 => repeat (first | exact (Kd.R_reads' HO230.out).2.2 | (with_reducible refine Kd.C_alloc ?_ _) | (with_reducible refine Kd.C_drewN ?_ _) | (with_reducible refine Kd.C_drew ?_))); (case side4 => exact (Kd.R_reads' HO230.out).2.1); rintro e w' ⟨rfl, ⟨nd, rfl⟩⟩; refine ⟨_, rfl, ?_⟩))
      go_meet
      case rel => exact ⟨_, (true), (by first | rfl | (simp; done) | (simp [*]; done)), H', ⟨by first | omega | exact Nat.le_refl _⟩, ⟨by (with_reducible repeat (first | apply Kd.R_alloc | apply Kd.R_drewN | apply Kd.R_drew)); exact Kd.R_mono HO230.out (fun _ hk => by first | exact ⟨hk.1.2, hk.2⟩ | grind)⟩, ⟨by (with_reducible repeat (first | apply Kd.R_alloc | apply Kd.R_drewN | apply Kd.R_drew)); exact Kd.R_mono HO239.out (fun _ hk => by first | exact ⟨hk.1.2, hk.2⟩ | grind)⟩, ⟨by (with_reducible repeat (first | apply Kd.R_alloc | apply Kd.R_drewN | apply Kd.R_drew)); exact Kd.R_mono HO242.out (fun _ hk => trivial)⟩, ⟨by (with_reducible repeat (first | apply Kd.R_alloc | apply Kd.R_drewN | apply Kd.R_drew)); exact Kd.R_mono HO245.out (fun _ hk => by first | exact ⟨hk.1.2, hk.2⟩ | grind)⟩, ⟨by (with_reducible repeat (first | apply Kd.R_alloc | apply Kd.R_drewN | apply Kd.R_drew)); exact Kd.R_mono HO235.out (fun _ hk => trivial)⟩, ⟨bk BK215⟩, ⟨bk BK236⟩, ⟨bw⟩⟩
    case rest =>
     clear HC24
     try clear c1
     try clear c2
     try clear p2
     try clear c3
     try clear c4
     try clear c4b0
     try clear c4b1
     try clear c7
     try clear c7b0
     try clear c10
     try clear c12
     try clear c12b0
     try clear c13
     try clear c14
     try clear c20
     try clear c29
     try clear c30
     try clear c31
     try clear c32
     try clear c39
     try clear c49
     try clear hcz14_0
     try clear hcz14_1
     try clear hcz26_0
     try clear hcz26_1
     try clear hcz28_0
     try clear hcz28_1
     try clear hcz36_0
     try clear hcz36_1
     try clear hcz40_0
     try clear hcz40_1
     try clear hcz44_0
     try clear hcz44_1
     try clear hcz9_0
     try clear hcz9_1
     try clear hfz14_0
     try clear hfz14_1
     try clear hfz26_0
     try clear hfz26_1
     try clear hfz28_0
     try clear hfz28_1
     try clear hfz36_0
     try clear hfz36_1
     try clear hfz40_0
     try clear hfz40_1
     try clear hfz44_0
     try clear hfz44_1
     try clear hfz9_0
     try clear hfz9_1
     obtain ⟨kq, x64_23, rfl, HA, HJ23, HO_8, HO_11, HO_12, HO_13, HO_237001, BK215, BK236, HB⟩ := hcut
     cases kq with
     | zero => exact absurd HA.out (by simp [laws_FnExactOrderRun.j0])
     | succ kj23 =>
      have H := HA.out
      clear HA
      simp only [laws_FnExactOrderRun.j0] at H
      by_cases c54 : x64_23 = true
      ·subst c54
       have H1 : (some false) = some r := by rw [if_pos rfl] at H; exact H
       clear H
       have H := H1
       clear H1
       obtain rfl := Option.some.inj H
       go_wp2
       go_ret
       exact ⟨by first | rfl | (simp [errW_none, errW_some] <;> rfl) | (simp [*, errW_none, errW_some] <;> rfl), bw⟩
      ·replace c54 := Bool.eq_false_iff.mpr c54
       subst c54
       have H1 : ((laws_toNet.f kj23 a0_0 l0_1).bind fun bt248 => ((laws_eqNet.f kj23 t232 t233 bt248.1 bt248.2).bind fun t252 => (if t252 = true then ((laws_toBoolS.f kj23 l1).bind fun t253 => ((laws_eqBoolS.f kj23 t237 t253).bind fun t256 => (if t256 = true then ((laws_toStepS.f kj23 l2).bind fun t257 => ((laws_eqStepS.f kj23 t240 t257).bind fun t260 => (if t260 = true then ((laws_markNet.f kj23 t232 t233 1).bind fun bt261 => ((laws_markBoolS.f kj23 t237 bt261.1).bind fun bt263 => ((laws_markStepS.f kj23 t240 bt263.1).bind fun bt265 => (if bt265.1 < 0 then (laws_FnExactOrderRun.j1 kj23 l1 l2 t228 t231 t243 true a0_0 l0_1) else ((laws_eqBoolS.f kj23 t243 t228).bind fun t267 => (if t267 = true then (laws_FnExactOrderRun.j1 kj23 l1 l2 t228 t231 t243 (t246 != t231) a0_0 l0_1) else (laws_FnExactOrderRun.j1 kj23 l1 l2 t228 t231 t243 true a0_0 l0_1))))))) else (some false)))) else (some false)))) else (some false)))) = some r := by rw [if_neg (show ¬ (false = true) by decide)] at H; exact H
       clear H
       have H := H1
       clear H1
       replace H := Option.bind_eq_some_iff.mp H
       obtain ⟨⟨t248, t249⟩, A550, H⟩ := H
       replace H : ((laws_eqNet.f kj23 t232 t233 t248 t249).bind fun t252 => (if t252 = true then ((laws_toBoolS.f kj23 l1).bind fun t253 => ((laws_eqBoolS.f kj23 t237 t253).bind fun t256 => (if t256 = true then ((laws_toStepS.f kj23 l2).bind fun t257 => ((laws_eqStepS.f kj23 t240 t257).bind fun t260 => (if t260 = true then ((laws_markNet.f kj23 t232 t233 1).bind fun bt261 => ((laws_markBoolS.f kj23 t237 bt261.1).bind fun bt263 => ((laws_markStepS.f kj23 t240 bt263.1).bind fun bt265 => (if bt265.1 < 0 then (laws_FnExactOrderRun.j1 kj23 l1 l2 t228 t231 t243 true a0_0 l0_1) else ((laws_eqBoolS.f kj23 t243 t228).bind fun t267 => (if t267 = true then (laws_FnExactOrderRun.j1 kj23 l1 l2 t228 t231 t243 (t246 != t231) a0_0 l0_1) else (laws_FnExactOrderRun.j1 kj23 l1 l2 t228 t231 t243 true a0_0 l0_1))))))) else (some false)))) else (some false)))) else (some false))) = some r := H
       have A55 := Aside0.mk A550
       clear A550
       replace H := Option.bind_eq_some_iff.mp H
       obtain ⟨t252, A560, H⟩ := H
       replace H : (if t252 = true then ((laws_toBoolS.f kj23 l1).bind fun t253 => ((laws_eqBoolS.f kj23 t237 t253).bind fun t256 => (if t256 = true then ((laws_toStepS.f kj23 l2).bind fun t257 => ((laws_eqStepS.f kj23 t240 t257).bind fun t260 => (if t260 = true then ((laws_markNet.f kj23 t232 t233 1).bind fun bt261 => ((laws_markBoolS.f kj23 t237 bt261.1).bind fun bt263 => ((laws_markStepS.f kj23 t240 bt263.1).bind fun bt265 => (if bt265.1 < 0 then (laws_FnExactOrderRun.j1 kj23 l1 l2 t228 t231 t243 true a0_0 l0_1) else ((laws_eqBoolS.f kj23 t243 t228).bind fun t267 => (if t267 = true then (laws_FnExactOrderRun.j1 kj23 l1 l2 t228 t231 t243 (t246 != t231) a0_0 l0_1) else (laws_FnExactOrderRun.j1 kj23 l1 l2 t228 t231 t243 true a0_0 l0_1))))))) else (some false)))) else (some false)))) else (some false)) = some r := H
       have A56 := Aside0.mk A560
       clear A560
       by_cases c57 : t252 = true
       ·subst c57
        have H1 : ((laws_toBoolS.f kj23 l1).bind fun t253 => ((laws_eqBoolS.f kj23 t237 t253).bind fun t256 => (if t256 = true then ((laws_toStepS.f kj23 l2).bind fun t257 => ((laws_eqStepS.f kj23 t240 t257).bind fun t260 => (if t260 = true then ((laws_markNet.f kj23 t232 t233 1).bind fun bt261 => ((laws_markBoolS.f kj23 t237 bt261.1).bind fun bt263 => ((laws_markStepS.f kj23 t240 bt263.1).bind fun bt265 => (if bt265.1 < 0 then (laws_FnExactOrderRun.j1 kj23 l1 l2 t228 t231 t243 true a0_0 l0_1) else ((laws_eqBoolS.f kj23 t243 t228).bind fun t267 => (if t267 = true then (laws_FnExactOrderRun.j1 kj23 l1 l2 t228 t231 t243 (t246 != t231) a0_0 l0_1) else (laws_FnExactOrderRun.j1 kj23 l1 l2 t228 t231 t243 true a0_0 l0_1))))))) else (some false)))) else (some false)))) = some r := by rw [if_pos rfl] at H; exact H
        clear H
        have H := H1
        clear H1
        replace H := Option.bind_eq_some_iff.mp H
        obtain ⟨t253, A580, H⟩ := H
        replace H : ((laws_eqBoolS.f kj23 t237 t253).bind fun t256 => (if t256 = true then ((laws_toStepS.f kj23 l2).bind fun t257 => ((laws_eqStepS.f kj23 t240 t257).bind fun t260 => (if t260 = true then ((laws_markNet.f kj23 t232 t233 1).bind fun bt261 => ((laws_markBoolS.f kj23 t237 bt261.1).bind fun bt263 => ((laws_markStepS.f kj23 t240 bt263.1).bind fun bt265 => (if bt265.1 < 0 then (laws_FnExactOrderRun.j1 kj23 l1 l2 t228 t231 t243 true a0_0 l0_1) else ((laws_eqBoolS.f kj23 t243 t228).bind fun t267 => (if t267 = true then (laws_FnExactOrderRun.j1 kj23 l1 l2 t228 t231 t243 (t246 != t231) a0_0 l0_1) else (laws_FnExactOrderRun.j1 kj23 l1 l2 t228 t231 t243 true a0_0 l0_1))))))) else (some false)))) else (some false))) = some r := H
        have A58 := Aside0.mk A580
        clear A580
        replace H := Option.bind_eq_some_iff.mp H
        obtain ⟨t256, A590, H⟩ := H
        replace H : (if t256 = true then ((laws_toStepS.f kj23 l2).bind fun t257 => ((laws_eqStepS.f kj23 t240 t257).bind fun t260 => (if t260 = true then ((laws_markNet.f kj23 t232 t233 1).bind fun bt261 => ((laws_markBoolS.f kj23 t237 bt261.1).bind fun bt263 => ((laws_markStepS.f kj23 t240 bt263.1).bind fun bt265 => (if bt265.1 < 0 then (laws_FnExactOrderRun.j1 kj23 l1 l2 t228 t231 t243 true a0_0 l0_1) else ((laws_eqBoolS.f kj23 t243 t228).bind fun t267 => (if t267 = true then (laws_FnExactOrderRun.j1 kj23 l1 l2 t228 t231 t243 (t246 != t231) a0_0 l0_1) else (laws_FnExactOrderRun.j1 kj23 l1 l2 t228 t231 t243 true a0_0 l0_1))))))) else (some false)))) else (some false)) = some r := H
        have A59 := Aside0.mk A590
        clear A590
        by_cases c60 : t256 = true
        ·subst c60
         have H1 : ((laws_toStepS.f kj23 l2).bind fun t257 => ((laws_eqStepS.f kj23 t240 t257).bind fun t260 => (if t260 = true then ((laws_markNet.f kj23 t232 t233 1).bind fun bt261 => ((laws_markBoolS.f kj23 t237 bt261.1).bind fun bt263 => ((laws_markStepS.f kj23 t240 bt263.1).bind fun bt265 => (if bt265.1 < 0 then (laws_FnExactOrderRun.j1 kj23 l1 l2 t228 t231 t243 true a0_0 l0_1) else ((laws_eqBoolS.f kj23 t243 t228).bind fun t267 => (if t267 = true then (laws_FnExactOrderRun.j1 kj23 l1 l2 t228 t231 t243 (t246 != t231) a0_0 l0_1) else (laws_FnExactOrderRun.j1 kj23 l1 l2 t228 t231 t243 true a0_0 l0_1))))))) else (some false)))) = some r := by rw [if_pos rfl] at H; exact H
         clear H
         have H := H1
         clear H1
         replace H := Option.bind_eq_some_iff.mp H
         obtain ⟨t257, A610, H⟩ := H
         replace H : ((laws_eqStepS.f kj23 t240 t257).bind fun t260 => (if t260 = true then ((laws_markNet.f kj23 t232 t233 1).bind fun bt261 => ((laws_markBoolS.f kj23 t237 bt261.1).bind fun bt263 => ((laws_markStepS.f kj23 t240 bt263.1).bind fun bt265 => (if bt265.1 < 0 then (laws_FnExactOrderRun.j1 kj23 l1 l2 t228 t231 t243 true a0_0 l0_1) else ((laws_eqBoolS.f kj23 t243 t228).bind fun t267 => (if t267 = true then (laws_FnExactOrderRun.j1 kj23 l1 l2 t228 t231 t243 (t246 != t231) a0_0 l0_1) else (laws_FnExactOrderRun.j1 kj23 l1 l2 t228 t231 t243 true a0_0 l0_1))))))) else (some false))) = some r := H
         have A61 := Aside0.mk A610
         clear A610
         replace H := Option.bind_eq_some_iff.mp H
         obtain ⟨t260, A620, H⟩ := H
         replace H : (if t260 = true then ((laws_markNet.f kj23 t232 t233 1).bind fun bt261 => ((laws_markBoolS.f kj23 t237 bt261.1).bind fun bt263 => ((laws_markStepS.f kj23 t240 bt263.1).bind fun bt265 => (if bt265.1 < 0 then (laws_FnExactOrderRun.j1 kj23 l1 l2 t228 t231 t243 true a0_0 l0_1) else ((laws_eqBoolS.f kj23 t243 t228).bind fun t267 => (if t267 = true then (laws_FnExactOrderRun.j1 kj23 l1 l2 t228 t231 t243 (t246 != t231) a0_0 l0_1) else (laws_FnExactOrderRun.j1 kj23 l1 l2 t228 t231 t243 true a0_0 l0_1))))))) else (some false)) = some r := H
         have A62 := Aside0.mk A620
         clear A620
         by_cases c63 : t260 = true
         ·subst c63
          have H1 : ((laws_markNet.f kj23 t232 t233 1).bind fun bt261 => ((laws_markBoolS.f kj23 t237 bt261.1).bind fun bt263 => ((laws_markStepS.f kj23 t240 bt263.1).bind fun bt265 => (if bt265.1 < 0 then (laws_FnExactOrderRun.j1 kj23 l1 l2 t228 t231 t243 true a0_0 l0_1) else ((laws_eqBoolS.f kj23 t243 t228).bind fun t267 => (if t267 = true then (laws_FnExactOrderRun.j1 kj23 l1 l2 t228 t231 t243 (t246 != t231) a0_0 l0_1) else (laws_FnExactOrderRun.j1 kj23 l1 l2 t228 t231 t243 true a0_0 l0_1))))))) = some r := by rw [if_pos rfl] at H; exact H
          clear H
          have H := H1
          clear H1
          replace H := Option.bind_eq_some_iff.mp H
          obtain ⟨⟨t261, t262⟩, A640, H⟩ := H
          replace H : ((laws_markBoolS.f kj23 t237 t261).bind fun bt263 => ((laws_markStepS.f kj23 t240 bt263.1).bind fun bt265 => (if bt265.1 < 0 then (laws_FnExactOrderRun.j1 kj23 l1 l2 t228 t231 t243 true a0_0 l0_1) else ((laws_eqBoolS.f kj23 t243 t228).bind fun t267 => (if t267 = true then (laws_FnExactOrderRun.j1 kj23 l1 l2 t228 t231 t243 (t246 != t231) a0_0 l0_1) else (laws_FnExactOrderRun.j1 kj23 l1 l2 t228 t231 t243 true a0_0 l0_1)))))) = some r := H
          have A64 := Aside0.mk A640
          clear A640
          replace H := Option.bind_eq_some_iff.mp H
          obtain ⟨⟨t263, t264⟩, A650, H⟩ := H
          replace H : ((laws_markStepS.f kj23 t240 t263).bind fun bt265 => (if bt265.1 < 0 then (laws_FnExactOrderRun.j1 kj23 l1 l2 t228 t231 t243 true a0_0 l0_1) else ((laws_eqBoolS.f kj23 t243 t228).bind fun t267 => (if t267 = true then (laws_FnExactOrderRun.j1 kj23 l1 l2 t228 t231 t243 (t246 != t231) a0_0 l0_1) else (laws_FnExactOrderRun.j1 kj23 l1 l2 t228 t231 t243 true a0_0 l0_1))))) = some r := H
          have A65 := Aside0.mk A650
          clear A650
          replace H := Option.bind_eq_some_iff.mp H
          obtain ⟨⟨t265, t266⟩, A660, H⟩ := H
          replace H : (if t265 < 0 then (laws_FnExactOrderRun.j1 kj23 l1 l2 t228 t231 t243 true a0_0 l0_1) else ((laws_eqBoolS.f kj23 t243 t228).bind fun t267 => (if t267 = true then (laws_FnExactOrderRun.j1 kj23 l1 l2 t228 t231 t243 (t246 != t231) a0_0 l0_1) else (laws_FnExactOrderRun.j1 kj23 l1 l2 t228 t231 t243 true a0_0 l0_1)))) = some r := H
          have A66 := Aside0.mk A660
          clear A660
          have HC67 := Aside0.mk H
          clear H
          try go_wp2
          have n0_ := Aside0.mk (Kd.R_drew HO_8.out)
          have n1_ := Aside0.mk (Kd.R_drew HO_11.out)
          have n2_ := Aside0.mk (Kd.R_drew HO_12.out)
          have n3_ := Aside0.mk (Kd.R_drew HO_13.out)
          have n4_ := Aside0.mk (Kd.R_drew HO_237001.out)
          have n5_ := Aside0.mk (blk_drew BK215.out)
          have n6_ := Aside0.mk (blk_drew BK236.out)
          have n7_ := Aside0.mk (below_drew1 HB.out)
          clear HO_8
          clear HO_11
          clear HO_12
          clear HO_13
          clear HO_237001
          clear BK215
          clear BK236
          clear HB
          have HO_8 := n0_
          have HO_11 := n1_
          have HO_12 := n2_
          have HO_13 := n3_
          have HO_237001 := n4_
          have BK215 := n5_
          have BK236 := n6_
          have HB := n7_
          clear n0_ n1_ n2_ n3_ n4_ n5_ n6_ n7_
          refine start_ (n := 5) (S := fun w' => w'.cell? ⟨gb236, 0, none⟩ = some (.int .i64 t232) ∧ w'.cell? ⟨gb236, 1, none⟩ = some (.slice Ao41 t233.length co41) ∧ w'.cell? ⟨gb215, 0, none⟩ = some (.int .i64 a0_0) ∧ w'.cell? ⟨gb215, 1, none⟩ = some (.slice A0_1 l0_1.length c0_1)) (ds := []) #[false, false, false, false, false] (by kernel_rfl) rfl rfl ⟨(blk_cell BK236.out 0).trans rfl, (blk_cell BK236.out 1).trans rfl, (blk_cell BK215.out 0).trans rfl, (blk_cell BK215.out 1).trans rfl⟩ (fun hHeld => ?_)
          generalize wc.drew = w68 at HO_8 HO_11 HO_12 HO_13 HO_237001 BK215 BK236 HB hHeld ⊢
          refine take_ (i := 0) (N := some 65) (v := ?_) (a' := ?_) #[true, false, false, false, false] rfl rfl (by kernel_rfl) (fun _ _ _ h => h) (Or.inl ⟨by rfl, ?_⟩) hHeld ?_ ?_
          rotate_left
          ·rintro w' ⟨s0, s1, s2, s3⟩
           go_simp
           with_reducible rfl
          rotate_left
          ·simp only [Act.put, List.setIfInBounds_toArray, List.set_cons_zero, List.set_cons_succ, i64_w, i32_w]
           rfl
          refine take_ (i := 1) (N := some 66) (v := ?_) (a' := ?_) #[true, true, false, false, false] rfl rfl (by kernel_rfl) (fun _ _ _ h => h) (Or.inl ⟨by rfl, ?_⟩) hHeld ?_ ?_
          rotate_left
          ·rintro w' ⟨s0, s1, s2, s3⟩
           go_simp
           with_reducible rfl
          rotate_left
          ·simp only [Act.put, List.setIfInBounds_toArray, List.set_cons_zero, List.set_cons_succ, i64_w, i32_w]
           rfl
          refine one_ (i := 2) (N := some 67) #[true, true, true, false, false] rfl rfl (by kernel_rfl) (by decide) (fun K hK => ?_)
          refine goes_ Try.func13 (by kernel_rfl) rfl #[.agg #[.int .i64 a0_0, .slice A0_1 l0_1.length c0_1]] (by rfl) rfl rfl (by (try simp only [List.map_toArray, List.map_cons, List.map_nil]); first | done | rfl | (simp only [List.length_drop, List.length_take]; rfl)) ?_
          with_reducible refine (laws_toNet.calls kj23 a0_0 _ _ l0_1 t248 t249 _ ?side1 ?side2 A55.out).mono ?_
          (case side1 => exact cb HR0_1)
          (case side2 => exact HC0_1.out)
          rintro e w69 ⟨v250, rfl, ho0, hb⟩
          refine ⟨_, rfl, ?_⟩
          have n0_ := rB HO_8 hb
          have n1_ := rB HO_11 hb
          have n2_ := rB HO_12 hb
          have n3_ := rB HO_13 hb
          have n4_ := Aside0.mk (Kd.R_elder' (rk HO_237001) (Kd.R_base ho0) hb)
          have n5_ := Aside0.mk (Kd.R_lower (Kd.R_new' ho0 (Kd.R_lt (rk HO_237001))) (below_size bw))
          have n6_ := bkB BK215 hb
          have n7_ := bkB BK236 hb
          have n8_ := Aside0.mk (below_step bw hb)
          clear HO_8
          clear HO_11
          clear HO_12
          clear HO_13
          clear HO_237001
          clear BK215
          clear BK236
          clear HB
          have HO_8 := n0_
          have HO_11 := n1_
          have HO_12 := n2_
          have HO_13 := n3_
          have HO_237001 := n4_
          have HO251 := n5_
          have BK215 := n6_
          have BK236 := n7_
          have HB := n8_
          clear n0_ n1_ n2_ n3_ n4_ n5_ n6_ n7_ n8_
          (try clear hb)
          (try clear hb2)
          (try clear hk)
          (try clear hi)
          (try clear ho0)
          obtain ⟨Ao70, co70, eo70⟩ := Kd.R_slice HO251.out
          (first | subst eo70 | (injection eo70 with f1_ f2_ f3_; have f4_ := f1_.symm; have f5_ := f3_.symm; clear f1_ f2_ f3_; subst f4_; subst f5_))
          refine hK.out _ _ ⟨(blk_cell BK236.out 0).trans rfl, (blk_cell BK236.out 1).trans rfl, (blk_cell BK215.out 0).trans rfl, (blk_cell BK215.out 1).trans rfl⟩ (fun hHeld => ?_)
          clear hK K
          refine norm_ (a' := ?_) ?_ ?_
          rotate_left
          ·show Act.put _ (some 67) _ = _
           simp only [Act.put, List.setIfInBounds_toArray, List.set_cons_zero, List.set_cons_succ, i64_w, i32_w]
           rfl
          refine one_ (i := 3) (N := some 68) #[true, true, true, true, false] rfl rfl (by kernel_rfl) (by decide) (fun K hK => ?_)
          refine goes_ Try.func19 (by kernel_rfl) rfl #[.agg #[.int .i64 t232, .slice Ao41 t233.length co41], .agg #[.int .i64 t248, .slice Ao70 t249.length co70]] (by rfl) rfl rfl (by (try simp only [List.map_toArray, List.map_cons, List.map_nil]); first | done | rfl | (simp only [List.length_drop, List.length_take]; rfl)) ?_
          with_reducible refine (laws_eqNet.calls kj23 t232 _ _ t233 t248 _ _ t249 true _ ?side1 ?side2 ?side3 ?side4 A56.out).mono ?_
          (case side1 => repeat (first | exact (Kd.R_reads' HO_237001.out).2.2 | (with_reducible refine Kd.C_alloc ?_ _) | (with_reducible refine Kd.C_drewN ?_ _) | (with_reducible refine Kd.C_drew ?_)))
          (case side2 => exact (Kd.R_reads' HO_237001.out).2.1)
          (case side3 => repeat (first | exact (Kd.R_reads' HO251.out).2.2 | (with_reducible refine Kd.C_alloc ?_ _) | (with_reducible refine Kd.C_drewN ?_ _) | (with_reducible refine Kd.C_drew ?_)))
          (case side4 => exact (Kd.R_reads' HO251.out).2.1)
          rintro e w71 ⟨rfl, hb⟩
          refine ⟨_, rfl, ?_⟩
          have n0_ := rB HO_8 hb
          have n1_ := rB HO_11 hb
          have n2_ := rB HO_12 hb
          have n3_ := rB HO_13 hb
          have n4_ := rB HO_237001 hb
          have n5_ := rB HO251 hb
          have n6_ := bkB BK215 hb
          have n7_ := bkB BK236 hb
          have n8_ := Aside0.mk (below_step bw hb)
          clear HO_8
          clear HO_11
          clear HO_12
          clear HO_13
          clear HO_237001
          clear HO251
          clear BK215
          clear BK236
          clear HB
          have HO_8 := n0_
          have HO_11 := n1_
          have HO_12 := n2_
          have HO_13 := n3_
          have HO_237001 := n4_
          have HO251 := n5_
          have BK215 := n6_
          have BK236 := n7_
          have HB := n8_
          clear n0_ n1_ n2_ n3_ n4_ n5_ n6_ n7_ n8_
          (try clear hb)
          (try clear hb2)
          (try clear hk)
          (try clear hi)
          refine hK.out _ _ ⟨(blk_cell BK236.out 0).trans rfl, (blk_cell BK236.out 1).trans rfl, (blk_cell BK215.out 0).trans rfl, (blk_cell BK215.out 1).trans rfl⟩ (fun hHeld => ?_)
          clear hK K
          refine norm_ (a' := ?_) ?_ ?_
          rotate_left
          ·show Act.put _ (some 68) _ = _
           simp only [Act.put, List.setIfInBounds_toArray, List.set_cons_zero, List.set_cons_succ, i64_w, i32_w]
           rfl
          refine pure_ (i := 4) (N := some 69) (v := ?_) (a' := ?_) #[true, true, true, true, true] rfl rfl (by kernel_rfl) (fun _ _ _ h => h) (Or.inl ⟨by rfl, ?_⟩) ?_ ?_
          rotate_left
          ·intro w'
           go_simp
           with_reducible rfl
          rotate_left
          ·simp only [Act.put, List.setIfInBounds_toArray, List.set_cons_zero, List.set_cons_succ, i64_w, i32_w]
           rfl
          refine done_ (by kernel_rfl) ?_
          have TK0_ := Aside0.mk trivial
          go_upto_region 27 with (first | (clear TK0_; (with_reducible refine gate_callee (f := 14) rfl ?_); refine goesL_ (some 72) rfl rfl Try.func14 (by kernel_rfl) rfl #[.slice A1 l1.length c1] rfl (by (try simp only [List.map_toArray, List.map_cons, List.map_nil]); first | done | rfl | (simp only [List.length_drop, List.length_take]; rfl)) ?_; (with_reducible refine (laws_toBoolS.calls kj23 _ _ l1 t253 _ ?side1 ?side2 A58.out).mono ?_); (case side1 => exact cb HR1); (case side2 => exact HC1.out); rintro e w72 ⟨v254, rfl, ho0, hb⟩; refine ⟨_, rfl, ?_⟩; have n0_ := Aside0.mk (Kd.R_elder' (rk HO_8) (Kd.R_base ho0) hb); have n1_ := Aside0.mk (Kd.R_elder' (rk HO_11) (Kd.R_base ho0) hb); have n2_ := rB HO_12 hb; have n3_ := Aside0.mk (Kd.R_elder' (rk HO_13) (Kd.R_base ho0) hb); have n4_ := rB HO_237001 hb; have n5_ := rB HO251 hb; have n6_ := Aside0.mk (Kd.R_lower (Kd.R_new' (Kd.R_new' (Kd.R_new' ho0 (Kd.R_lt (rk HO_8))) (Kd.R_lt (rk HO_11))) (Kd.R_lt (rk HO_13))) (below_size bw)); have n7_ := bkB BK215 hb; have n8_ := bkB BK236 hb; have n9_ := Aside0.mk (below_step bw hb); clear HO_8 HO_11 HO_12 HO_13 HO_237001 HO251 BK215 BK236 HB; have HO_8 := n0_; have HO_11 := n1_; have HO_12 := n2_; have HO_13 := n3_; have HO_237001 := n4_; have HO251 := n5_; have HO255 := n6_; have BK215 := n7_; have BK236 := n8_; have HB := n9_; clear n0_ n1_ n2_ n3_ n4_ n5_ n6_ n7_ n8_ n9_; (try clear hb); (try clear hb2); (try clear hk); (try clear hi); (try clear ho0); obtain ⟨Ao73, co73, eo73⟩ := Kd.R_slice HO255.out; subst eo73; have TK1_ := Aside0.mk trivial) | (clear TK1_; (with_reducible refine gate_callee (f := 20) rfl ?_); refine goesL_ (some 73) rfl rfl Try.func20 (by kernel_rfl) rfl #[.slice Ao45 t237.length co45, .slice Ao73 t253.length co73] rfl (by (try simp only [List.map_toArray, List.map_cons, List.map_nil]); first | done | rfl | (simp only [List.length_drop, List.length_take]; rfl)) ?_; (with_reducible refine (laws_eqBoolS.calls kj23 _ _ t237 _ _ t253 true _ ?side1 ?side2 ?side3 ?side4 A59.out).mono ?_); (case side1 => repeat (first | exact (Kd.R_reads' HO_11.out).2.2 | (with_reducible refine Kd.C_alloc ?_ _) | (with_reducible refine Kd.C_drewN ?_ _) | (with_reducible refine Kd.C_drew ?_))); (case side2 => exact (Kd.R_reads' HO_11.out).2.1); (case side3 => repeat (first | exact (Kd.R_reads' HO255.out).2.2 | (with_reducible refine Kd.C_alloc ?_ _) | (with_reducible refine Kd.C_drewN ?_ _) | (with_reducible refine Kd.C_drew ?_))); (case side4 => exact (Kd.R_reads' HO255.out).2.1); rintro e w' ⟨rfl, ⟨nd, rfl⟩⟩; refine ⟨_, rfl, ?_⟩; have TK2_ := Aside0.mk trivial) | (clear TK2_; (with_reducible refine gate_callee (f := 31) rfl ?_); refine goesL_ (some 77) rfl rfl Try.func31 (by kernel_rfl) rfl #[.slice A2 l2.length c2] rfl (by (try simp only [List.map_toArray, List.map_cons, List.map_nil]); first | done | rfl | (simp only [List.length_drop, List.length_take]; rfl)) ?_; (with_reducible refine (laws_toStepS.calls kj23 _ _ l2 t257 _ ?side1 ?side2 A61.out).mono ?_); (case side1 => repeat (first | exact (Kd.C_below HR2.out bw) | (with_reducible refine Kd.C_alloc ?_ _) | (with_reducible refine Kd.C_drewN ?_ _) | (with_reducible refine Kd.C_drew ?_))); (case side2 => exact HC2.out); rintro e w74 ⟨v258, rfl, ho0, hb⟩; refine ⟨_, rfl, ?_⟩; have n0_ := rB HO_8 hb; have n1_ := rB HO_11 hb; have n2_ := Aside0.mk (Kd.R_elder' (rk HO_12) (Kd.R_base ho0) hb); have n3_ := rB HO_13 hb; have n4_ := rB HO_237001 hb; have n5_ := rB HO251 hb; have n6_ := rB HO255 hb; have n7_ := Aside0.mk (Kd.R_lower (Kd.R_new' ho0 (Kd.R_lt (rk HO_12))) (below_size bw)); have n8_ := bkB BK215 hb; have n9_ := bkB BK236 hb; have n10_ := Aside0.mk (below_step bw hb); clear HO_8 HO_11 HO_12 HO_13 HO_237001 HO251 HO255 BK215 BK236 HB; have HO_8 := n0_; have HO_11 := n1_; have HO_12 := n2_; have HO_13 := n3_; have HO_237001 := n4_; have HO251 := n5_; have HO255 := n6_; have HO259 := n7_; have BK215 := n8_; have BK236 := n9_; have HB := n10_; clear n0_ n1_ n2_ n3_ n4_ n5_ n6_ n7_ n8_ n9_ n10_; (try clear hb); (try clear hb2); (try clear hk); (try clear hi); (try clear ho0); obtain ⟨Ao75, co75, eo75⟩ := Kd.R_slice HO259.out; subst eo75; have TK3_ := Aside0.mk trivial) | (clear TK3_; (with_reducible refine gate_callee (f := 18) rfl ?_); refine goesL_ (some 78) rfl rfl Try.func18 (by kernel_rfl) rfl #[.slice Ao46 t240.length co46, .slice Ao75 t257.length co75] rfl (by (try simp only [List.map_toArray, List.map_cons, List.map_nil]); first | done | rfl | (simp only [List.length_drop, List.length_take]; rfl)) ?_; (with_reducible refine (laws_eqStepS.calls kj23 _ _ t240 _ _ t257 true _ ?side1 ?side2 ?side3 ?side4 A62.out).mono ?_); (case side1 => repeat (first | exact (Kd.R_reads' HO_12.out).2.2 | (with_reducible refine Kd.C_alloc ?_ _) | (with_reducible refine Kd.C_drewN ?_ _) | (with_reducible refine Kd.C_drew ?_))); (case side2 => exact (Kd.R_reads' HO_12.out).2.1); (case side3 => repeat (first | exact (Kd.R_reads' HO259.out).2.2 | (with_reducible refine Kd.C_alloc ?_ _) | (with_reducible refine Kd.C_drewN ?_ _) | (with_reducible refine Kd.C_drew ?_))); (case side4 => exact (Kd.R_reads' HO259.out).2.1); rintro e w76 ⟨rfl, hb⟩; refine ⟨_, rfl, ?_⟩; have n0_ := rB HO_8 hb; have n1_ := rB HO_11 hb; have n2_ := rB HO_12 hb; have n3_ := rB HO_13 hb; have n4_ := rB HO_237001 hb; have n5_ := rB HO251 hb; have n6_ := rB HO255 hb; have n7_ := rB HO259 hb; have n8_ := bkB BK215 hb; have n9_ := bkB BK236 hb; have n10_ := Aside0.mk (below_step bw hb); clear HO_8 HO_11 HO_12 HO_13 HO_237001 HO251 HO255 HO259 BK215 BK236 HB; have HO_8 := n0_; have HO_11 := n1_; have HO_12 := n2_; have HO_13 := n3_; have HO_237001 := n4_; have HO251 := n5_; have HO255 := n6_; have HO259 := n7_; have BK215 := n8_; have BK236 := n9_; have HB := n10_; clear n0_ n1_ n2_ n3_ n4_ n5_ n6_ n7_ n8_ n9_ n10_; (try clear hb); (try clear hb2); (try clear hk); (try clear hi); have hnb77 := NB236_215.out; have hnc77 := NB215_236.out; have hcz78_0 : w76.cell? ⟨gb236, 0, none⟩ = some (.int .i64 t232) := (blk_cell BK236.out 0).trans rfl; have hcz78_1 : w76.cell? ⟨gb236, 1, none⟩ = some (.slice Ao41 t233.length co41) := (blk_cell BK236.out 1).trans rfl; have hfz78_0 := blk_frozen BK236.out 0; have hfz78_1 := blk_frozen BK236.out 1; have TK4_ := Aside0.mk trivial) | (clear TK4_; (with_reducible refine gate_callee (f := 23) rfl ?_); refine goesL_ (some 82) rfl rfl Try.func23 (by kernel_rfl) rfl #[.agg #[.int .i64 t232, .slice Ao41 t233.length co41], .int .i64 1] rfl (by (try simp only [List.map_toArray, List.map_cons, List.map_nil]); first | done | rfl | (simp only [List.length_drop, List.length_take]; rfl)) ?_; (with_reducible refine (laws_markNet.calls kj23 t232 (fun k_ => some k_ = (.slice Ao41 t233.length co41 : Value).ownBlock) (.slice Ao41 t233.length co41) t233 1 t261 t262 w _ ?side1 ?side2 A64.out).mono ?_); (case side1 => exact bw); (case side2 => exact Kd.R_tight rfl HO_237001.out); rintro e w79 ⟨rfl, hy0, hb, hkp⟩; refine ⟨_, rfl, ?_⟩; have n0_ := Aside0.mk (Kd.R_mono (ok' := fun k_ => some k_ ≠ (.slice Ao45 t237.length co45 : Value).ownBlock ∧ some k_ ≠ (v244 : Value).ownBlock ∧ some k_ ≠ (.slice Ao73 t253.length co73 : Value).ownBlock) (Kd.R_keptB ((Kd.R_apart' HO_8.out (Kd.R_typed HO_237001.out) (by decide))) hkp (fun k_ hk_ hs_ => by first | exact (hk_.2) hs_ | grind)) (fun k_ hk_ => by first | exact ⟨hk_.1.1.1.1, hk_.1.1.1.2, hk_.1.1.2⟩ | grind)); have n1_ := Aside0.mk (Kd.R_mono (ok' := fun k_ => some k_ ≠ (v229 : Value).ownBlock ∧ some k_ ≠ (v244 : Value).ownBlock ∧ some k_ ≠ (.slice Ao73 t253.length co73 : Value).ownBlock) (Kd.R_keptB ((Kd.R_apart' HO_11.out (Kd.R_typed HO_237001.out) (by decide))) hkp (fun k_ hk_ hs_ => by first | exact (hk_.2) hs_ | grind)) (fun k_ hk_ => by first | exact ⟨hk_.1.1.1.1, hk_.1.1.1.2, hk_.1.1.2⟩ | grind)); have n2_ := Aside0.mk (Kd.R_mono (ok' := fun k_ => some k_ ≠ (.slice Ao75 t257.length co75 : Value).ownBlock) (Kd.R_keptB ((Kd.R_apart' HO_12.out (Kd.R_typed HO_237001.out) (by decide))) hkp (fun k_ hk_ hs_ => by first | exact (hk_.2) hs_ | grind)) (fun k_ hk_ => by first | exact hk_.1.1.2 | grind)); have n3_ := Aside0.mk (Kd.R_mono (ok' := fun k_ => some k_ ≠ (v229 : Value).ownBlock ∧ some k_ ≠ (.slice Ao45 t237.length co45 : Value).ownBlock ∧ some k_ ≠ (.slice Ao73 t253.length co73 : Value).ownBlock) (Kd.R_keptB ((Kd.R_apart' HO_13.out (Kd.R_typed HO_237001.out) (by decide))) hkp (fun k_ hk_ hs_ => by first | exact (hk_.2) hs_ | grind)) (fun k_ hk_ => by first | exact ⟨hk_.1.1.1.1, hk_.1.1.1.2, hk_.1.1.2⟩ | grind)); have n4_ := Aside0.mk (Kd.R_reok rfl hy0 (fun k_ e_ => HO_237001.out.1 k_ e_)); have n5_ := Aside0.mk (blk_kept (bk BK215) hkp (fun hs_ => (fun e_ => (Kd.R_ne HO_237001.out BK215.out (by decide)) e_) hs_)); have n6_ := Aside0.mk (blk_kept (bk BK236) hkp (fun hs_ => (fun e_ => (Kd.R_ne HO_237001.out BK236.out (by decide)) e_) hs_)); have n7_ := Aside0.mk (Kd.R_mono (ok' := fun k_ => some k_ ≠ (.slice Ao41 t233.length co41 : Value).ownBlock) (Kd.R_keptB (HO251.out) hkp (fun k_ hk_ hs_ => by first | exact (hk_.2) hs_ | grind)) (fun k_ hk_ => by first | exact hk_.1.2 | grind)); have n8_ := Aside0.mk (Kd.R_mono (ok' := fun k_ => some k_ ≠ (v229 : Value).ownBlock ∧ some k_ ≠ (.slice Ao45 t237.length co45 : Value).ownBlock ∧ some k_ ≠ (v244 : Value).ownBlock) (Kd.R_keptB ((Kd.R_apart' HO255.out (Kd.R_typed HO_237001.out) (by decide))) hkp (fun k_ hk_ hs_ => by first | exact (hk_.2) hs_ | grind)) (fun k_ hk_ => by first | exact ⟨hk_.1.1.1.1.2, hk_.1.1.1.2, hk_.1.1.2⟩ | grind)); have n9_ := Aside0.mk (Kd.R_mono (ok' := fun k_ => some k_ ≠ (.slice Ao46 t240.length co46 : Value).ownBlock) (Kd.R_keptB ((Kd.R_apart' HO259.out (Kd.R_typed HO_237001.out) (by decide))) hkp (fun k_ hk_ hs_ => by first | exact (hk_.2) hs_ | grind)) (fun k_ hk_ => by first | exact hk_.1.1.2 | grind)); have n10_ := Aside0.mk (hb); clear HO_8 HO_11 HO_12 HO_13 HO_237001 BK215 BK236 HO251 HO255 HO259 HB; have HO_8 := n0_; have HO_11 := n1_; have HO_12 := n2_; have HO_13 := n3_; have HO_237001 := n4_; have BK215 := n5_; have BK236 := n6_; have HO251 := n7_; have HO255 := n8_; have HO259 := n9_; have HB := n10_; clear n0_ n1_ n2_ n3_ n4_ n5_ n6_ n7_ n8_ n9_ n10_; (try clear hb); (try clear hkp); (try clear hy0); have TK5_ := Aside0.mk trivial) | (clear TK5_; (with_reducible refine gate_callee (f := 24) rfl ?_); refine goesL_ (some 85) rfl rfl Try.func24 (by kernel_rfl) rfl #[.slice Ao45 t237.length co45, .int .i64 t261] rfl (by (try simp only [List.map_toArray, List.map_cons, List.map_nil]); first | done | rfl | (simp only [List.length_drop, List.length_take]; rfl)) ?_; (with_reducible refine (laws_markBoolS.calls kj23 (fun k_ => some k_ = (.slice Ao45 t237.length co45 : Value).ownBlock) (.slice Ao45 t237.length co45) t237 t261 t263 t264 w _ ?side1 ?side2 A65.out).mono ?_); (case side1 => exact bw); (case side2 => exact Kd.R_tight rfl HO_11.out); rintro e w80 ⟨rfl, hy0, hb, hkp⟩; refine ⟨_, rfl, ?_⟩; have n0_ := Aside0.mk (Kd.R_mono (ok' := fun k_ => some k_ ≠ (.slice Ao45 t237.length co45 : Value).ownBlock ∧ some k_ ≠ (v244 : Value).ownBlock ∧ some k_ ≠ (.slice Ao73 t253.length co73 : Value).ownBlock) (Kd.R_keptB (HO_8.out) hkp (fun k_ hk_ hs_ => by first | exact (hk_.1) hs_ | grind)) (fun k_ hk_ => by first | exact ⟨hk_.1.1, hk_.1.2.1, hk_.1.2.2⟩ | grind)); have n1_ := Aside0.mk (Kd.R_reok rfl hy0 (fun k_ e_ => HO_11.out.1 k_ e_)); have n2_ := Aside0.mk (Kd.R_mono (ok' := fun k_ => some k_ ≠ (.slice Ao75 t257.length co75 : Value).ownBlock) (Kd.R_keptB ((Kd.R_apart' HO_12.out (Kd.R_typed HO_11.out) (by decide))) hkp (fun k_ hk_ hs_ => by first | exact (hk_.2) hs_ | grind)) (fun k_ hk_ => by first | exact hk_.1.1 | grind)); have n3_ := Aside0.mk (Kd.R_mono (ok' := fun k_ => some k_ ≠ (v229 : Value).ownBlock ∧ some k_ ≠ (.slice Ao45 t237.length co45 : Value).ownBlock ∧ some k_ ≠ (.slice Ao73 t253.length co73 : Value).ownBlock) (Kd.R_keptB (HO_13.out) hkp (fun k_ hk_ hs_ => by first | exact (hk_.2.1) hs_ | grind)) (fun k_ hk_ => by first | exact ⟨hk_.1.1, hk_.1.2.1, hk_.1.2.2⟩ | grind)); have n4_ := Aside0.mk (Kd.R_mono (ok' := fun k_ => some k_ ≠ (.slice Ao70 t249.length co70 : Value).ownBlock) (Kd.R_keptB ((Kd.R_apart' HO_237001.out (Kd.R_typed HO_11.out) (by decide))) hkp (fun k_ hk_ hs_ => by first | exact (hk_.2) hs_ | grind)) (fun k_ hk_ => by first | exact hk_.1.1.2 | grind)); have n5_ := Aside0.mk (blk_kept (bk BK215) hkp (fun hs_ => (fun e_ => (Kd.R_ne HO_11.out BK215.out (by decide)) e_) hs_)); have n6_ := Aside0.mk (blk_kept (bk BK236) hkp (fun hs_ => (fun e_ => (Kd.R_ne HO_11.out BK236.out (by decide)) e_) hs_)); have n7_ := Aside0.mk (Kd.R_mono (ok' := fun k_ => some k_ ≠ (.slice Ao41 t233.length co41 : Value).ownBlock) (Kd.R_keptB ((Kd.R_apart' HO251.out (Kd.R_typed HO_11.out) (by decide))) hkp (fun k_ hk_ hs_ => by first | exact (hk_.2) hs_ | grind)) (fun k_ hk_ => by first | exact hk_.1.1 | grind)); have n8_ := Aside0.mk (Kd.R_mono (ok' := fun k_ => some k_ ≠ (v229 : Value).ownBlock ∧ some k_ ≠ (.slice Ao45 t237.length co45 : Value).ownBlock ∧ some k_ ≠ (v244 : Value).ownBlock) (Kd.R_keptB (HO255.out) hkp (fun k_ hk_ hs_ => by first | exact (hk_.2.1) hs_ | grind)) (fun k_ hk_ => by first | exact ⟨hk_.1.1, hk_.1.2.1, hk_.1.2.2⟩ | grind)); have n9_ := Aside0.mk (Kd.R_mono (ok' := fun k_ => some k_ ≠ (.slice Ao46 t240.length co46 : Value).ownBlock) (Kd.R_keptB ((Kd.R_apart' HO259.out (Kd.R_typed HO_11.out) (by decide))) hkp (fun k_ hk_ hs_ => by first | exact (hk_.2) hs_ | grind)) (fun k_ hk_ => by first | exact hk_.1.1 | grind)); have n10_ := Aside0.mk (hb); clear HO_8 HO_11 HO_12 HO_13 HO_237001 BK215 BK236 HO251 HO255 HO259 HB; have HO_8 := n0_; have HO_11 := n1_; have HO_12 := n2_; have HO_13 := n3_; have HO_237001 := n4_; have BK215 := n5_; have BK236 := n6_; have HO251 := n7_; have HO255 := n8_; have HO259 := n9_; have HB := n10_; clear n0_ n1_ n2_ n3_ n4_ n5_ n6_ n7_ n8_ n9_ n10_; (try clear hb); (try clear hkp); (try clear hy0); have TK6_ := Aside0.mk trivial) | (clear TK6_; (with_reducible refine gate_callee (f := 27) rfl ?_); refine goesL_ (some 88) rfl rfl Try.func27 (by kernel_rfl) rfl #[.slice Ao46 t240.length co46, .int .i64 t263] rfl (by (try simp only [List.map_toArray, List.map_cons, List.map_nil]); first | done | rfl | (simp only [List.length_drop, List.length_take]; rfl)) ?_; (with_reducible refine (laws_markStepS.calls kj23 (fun k_ => some k_ = (.slice Ao46 t240.length co46 : Value).ownBlock) (.slice Ao46 t240.length co46) t240 t263 t265 t266 w _ ?side1 ?side2 A66.out).mono ?_); (case side1 => exact bw); (case side2 => exact Kd.R_tight rfl HO_12.out); rintro e w81 ⟨rfl, hy0, hb, hkp⟩; refine ⟨_, rfl, ?_⟩; have n0_ := Aside0.mk (Kd.R_mono (ok' := fun k_ => some k_ ≠ (.slice Ao45 t237.length co45 : Value).ownBlock ∧ some k_ ≠ (v244 : Value).ownBlock ∧ some k_ ≠ (.slice Ao73 t253.length co73 : Value).ownBlock) (Kd.R_keptB ((Kd.R_apart' HO_8.out (Kd.R_typed HO_12.out) (by decide))) hkp (fun k_ hk_ hs_ => by first | exact (hk_.2) hs_ | grind)) (fun k_ hk_ => by first | exact ⟨hk_.1.1.1, hk_.1.1.2.1, hk_.1.1.2.2⟩ | grind)); have n1_ := Aside0.mk (Kd.R_mono (ok' := fun k_ => some k_ ≠ (v229 : Value).ownBlock ∧ some k_ ≠ (v244 : Value).ownBlock ∧ some k_ ≠ (.slice Ao73 t253.length co73 : Value).ownBlock) (Kd.R_keptB ((Kd.R_apart' HO_11.out (Kd.R_typed HO_12.out) (by decide))) hkp (fun k_ hk_ hs_ => by first | exact (hk_.2) hs_ | grind)) (fun k_ hk_ => by first | exact ⟨hk_.1.1.1, hk_.1.1.2.1, hk_.1.1.2.2⟩ | grind)); have n2_ := Aside0.mk (Kd.R_reok rfl hy0 (fun k_ e_ => HO_12.out.1 k_ e_)); have n3_ := Aside0.mk (Kd.R_mono (ok' := fun k_ => some k_ ≠ (v229 : Value).ownBlock ∧ some k_ ≠ (.slice Ao45 t237.length co45 : Value).ownBlock ∧ some k_ ≠ (.slice Ao73 t253.length co73 : Value).ownBlock) (Kd.R_keptB ((Kd.R_apart' HO_13.out (Kd.R_typed HO_12.out) (by decide))) hkp (fun k_ hk_ hs_ => by first | exact (hk_.2) hs_ | grind)) (fun k_ hk_ => by first | exact ⟨hk_.1.1.1, hk_.1.1.2.1, hk_.1.1.2.2⟩ | grind)); have n4_ := Aside0.mk (Kd.R_mono (ok' := fun k_ => some k_ ≠ (.slice Ao70 t249.length co70 : Value).ownBlock) (Kd.R_keptB ((Kd.R_apart' HO_237001.out (Kd.R_typed HO_12.out) (by decide))) hkp (fun k_ hk_ hs_ => by first | exact (hk_.2) hs_ | grind)) (fun k_ hk_ => by first | exact hk_.1.1 | grind)); have n5_ := Aside0.mk (blk_kept (bk BK215) hkp (fun hs_ => (fun e_ => (Kd.R_ne HO_12.out BK215.out (by decide)) e_) hs_)); have n6_ := Aside0.mk (blk_kept (bk BK236) hkp (fun hs_ => (fun e_ => (Kd.R_ne HO_12.out BK236.out (by decide)) e_) hs_)); have n7_ := Aside0.mk (Kd.R_mono (ok' := fun k_ => some k_ ≠ (.slice Ao41 t233.length co41 : Value).ownBlock) (Kd.R_keptB ((Kd.R_apart' HO251.out (Kd.R_typed HO_12.out) (by decide))) hkp (fun k_ hk_ hs_ => by first | exact (hk_.2) hs_ | grind)) (fun k_ hk_ => by first | exact hk_.1.1 | grind)); have n8_ := Aside0.mk (Kd.R_mono (ok' := fun k_ => some k_ ≠ (v229 : Value).ownBlock ∧ some k_ ≠ (.slice Ao45 t237.length co45 : Value).ownBlock ∧ some k_ ≠ (v244 : Value).ownBlock) (Kd.R_keptB ((Kd.R_apart' HO255.out (Kd.R_typed HO_12.out) (by decide))) hkp (fun k_ hk_ hs_ => by first | exact (hk_.2) hs_ | grind)) (fun k_ hk_ => by first | exact ⟨hk_.1.1.1, hk_.1.1.2.1, hk_.1.1.2.2⟩ | grind)); have n9_ := Aside0.mk (Kd.R_mono (ok' := fun k_ => some k_ ≠ (.slice Ao46 t240.length co46 : Value).ownBlock) (Kd.R_keptB (HO259.out) hkp (fun k_ hk_ hs_ => by first | exact (hk_) hs_ | grind)) (fun k_ hk_ => by first | exact hk_.1 | grind)); have n10_ := Aside0.mk (hb); clear HO_8 HO_11 HO_12 HO_13 HO_237001 BK215 BK236 HO251 HO255 HO259 HB; have HO_8 := n0_; have HO_11 := n1_; have HO_12 := n2_; have HO_13 := n3_; have HO_237001 := n4_; have BK215 := n5_; have BK236 := n6_; have HO251 := n7_; have HO255 := n8_; have HO259 := n9_; have HB := n10_; clear n0_ n1_ n2_ n3_ n4_ n5_ n6_ n7_ n8_ n9_ n10_; (try clear hb); (try clear hkp); (try clear hy0); have TK7_ := Aside0.mk trivial))
          (try simp only [Act.put, List.setIfInBounds_toArray, List.set_cons_zero, List.set_cons_succ])
          go_cut [101] (fun v101 wc => ∃ (kq : Nat) (x101_66 : Bool), v101 = .bool x101_66 ∧ Aside0 (laws_FnExactOrderRun.j1 kq l1 l2 t228 t231 t243 x101_66 a0_0 l0_1 = some r) ∧ Aside0 (kq ≤ kj23) ∧ Aside0 (Kd.R Kd.bool 4 wc w.heap.size (fun k_ => some k_ ≠ (v244 : Value).ownBlock) v229 t228) ∧ Aside0 (Kd.R Kd.bool 4 wc w.heap.size (fun k_ => some k_ ≠ (v229 : Value).ownBlock) v244 t243) ∧ Aside0 (Kd.R k139 139 wc w.heap.size (fun _ => True) (.slice Ao41 t233.length co41) t262) ∧ Aside0 (wc.heap[gb215]? = some (.cells #[.int .i64 a0_0, (.slice A0_1 l0_1.length c0_1)] 24 (0, 0))) ∧ Aside0 (wc.heap[gb236]? = some (.cells #[.int .i64 t232, (.slice Ao41 t233.length co41)] 35 (0, 0))) ∧ Aside0 (Below w.heap.size w wc))
          case first =>
           have H := HC67.out
           clear HC67
           by_cases c82 : t265 < 0
           ·rw [if_pos c82] at H
            have c82b0 : decide (t265 < 0) = true := decide_eq_true c82
            clear c82
            (first | rw [c82b0] | (simp only [i64_w, i32_w]; rw [c82b0]) | skip)
            have H' := Aside0.mk H
            clear H
            go_wp2
            go_meet
            case rel => exact ⟨_, (true), (by first | rfl | (simp; done) | (simp [*]; done)), H', ⟨by have := HJ23.out; first | omega | exact Nat.le_refl _⟩, ⟨by (with_reducible repeat (first | apply Kd.R_alloc | apply Kd.R_drewN | apply Kd.R_drew)); exact Kd.R_mono HO_8.out (fun _ hk => by first | exact hk.2.1 | grind)⟩, ⟨by (with_reducible repeat (first | apply Kd.R_alloc | apply Kd.R_drewN | apply Kd.R_drew)); exact Kd.R_mono HO_13.out (fun _ hk => by first | exact hk.1 | grind)⟩, ⟨by (with_reducible repeat (first | apply Kd.R_alloc | apply Kd.R_drewN | apply Kd.R_drew)); exact Kd.R_mono HO_237001.out (fun _ hk => trivial)⟩, ⟨bk BK215⟩, ⟨bk BK236⟩, ⟨bw⟩⟩
           ·rw [if_neg c82] at H
            have c82b0 : decide (t265 < 0) = false := decide_eq_false c82
            clear c82
            (first | rw [c82b0] | (simp only [i64_w, i32_w]; rw [c82b0]) | skip)
            replace H := Option.bind_eq_some_iff.mp H
            obtain ⟨t267, A830, H⟩ := H
            replace H : (if t267 = true then (laws_FnExactOrderRun.j1 kj23 l1 l2 t228 t231 t243 (t246 != t231) a0_0 l0_1) else (laws_FnExactOrderRun.j1 kj23 l1 l2 t228 t231 t243 true a0_0 l0_1)) = some r := H
            have A83 := Aside0.mk A830
            clear A830
            by_cases c84 : t267 = true
            ·subst c84
             have H1 : (laws_FnExactOrderRun.j1 kj23 l1 l2 t228 t231 t243 (t246 != t231) a0_0 l0_1) = some r := by rw [if_pos rfl] at H; exact H
             clear H
             have H := H1
             clear H1
             have H' := Aside0.mk H
             clear H
             obtain ⟨Ao85, co85, eo85⟩ := Kd.R_slice HO_13.out
             subst eo85
             obtain ⟨Ao86, co86, eo86⟩ := Kd.R_slice HO_8.out
             subst eo86
             go_wp2_with (first | (go_at_call 20; (with_reducible refine (laws_eqBoolS.calls kj23 _ _ t243 _ _ t228 true _ ?side1 ?side2 ?side3 ?side4 A83.out).mono ?_); (case side1 => repeat (first | exact (Kd.R_reads' HO_13.out).2.2 | (with_reducible refine Kd.C_alloc ?_ _) | (with_reducible refine Kd.C_drewN ?_ _) | (with_reducible refine Kd.C_drew ?_))); (case side2 => exact (Kd.R_reads' HO_13.out).2.1); (case side3 => repeat (first | exact (Kd.R_reads' HO_8.out).2.2 | (with_reducible refine Kd.C_alloc ?_ _) | (with_reducible refine Kd.C_drewN ?_ _) | (with_reducible refine Kd.C_drew ?_))); (case side4 => exact (Kd.R_reads' HO_8.out).2.1); rintro e w' ⟨rfl, ⟨nd, rfl⟩⟩))
             go_meet
             case rel => exact ⟨_, ((t246 != t231)), (by first | rfl | (simp; done) | (simp [*]; done)), H', ⟨by have := HJ23.out; first | omega | exact Nat.le_refl _⟩, ⟨by (with_reducible repeat (first | apply Kd.R_alloc | apply Kd.R_drewN | apply Kd.R_drew)); exact Kd.R_mono HO_8.out (fun _ hk => by first | exact hk.2.1 | grind)⟩, ⟨by (with_reducible repeat (first | apply Kd.R_alloc | apply Kd.R_drewN | apply Kd.R_drew)); exact Kd.R_mono HO_13.out (fun _ hk => by first | exact hk.1 | grind)⟩, ⟨by (with_reducible repeat (first | apply Kd.R_alloc | apply Kd.R_drewN | apply Kd.R_drew)); exact Kd.R_mono HO_237001.out (fun _ hk => trivial)⟩, ⟨bk BK215⟩, ⟨bk BK236⟩, ⟨bw⟩⟩
            ·replace c84 := Bool.eq_false_iff.mpr c84
             subst c84
             have H1 : (laws_FnExactOrderRun.j1 kj23 l1 l2 t228 t231 t243 true a0_0 l0_1) = some r := by rw [if_neg (show ¬ (false = true) by decide)] at H; exact H
             clear H
             have H := H1
             clear H1
             have H' := Aside0.mk H
             clear H
             obtain ⟨Ao87, co87, eo87⟩ := Kd.R_slice HO_13.out
             subst eo87
             obtain ⟨Ao88, co88, eo88⟩ := Kd.R_slice HO_8.out
             subst eo88
             go_wp2_with (first | (go_at_call 20; (with_reducible refine (laws_eqBoolS.calls kj23 _ _ t243 _ _ t228 false _ ?side1 ?side2 ?side3 ?side4 A83.out).mono ?_); (case side1 => repeat (first | exact (Kd.R_reads' HO_13.out).2.2 | (with_reducible refine Kd.C_alloc ?_ _) | (with_reducible refine Kd.C_drewN ?_ _) | (with_reducible refine Kd.C_drew ?_))); (case side2 => exact (Kd.R_reads' HO_13.out).2.1); (case side3 => repeat (first | exact (Kd.R_reads' HO_8.out).2.2 | (with_reducible refine Kd.C_alloc ?_ _) | (with_reducible refine Kd.C_drewN ?_ _) | (with_reducible refine Kd.C_drew ?_))); (case side4 => exact (Kd.R_reads' HO_8.out).2.1); rintro e w' ⟨rfl, ⟨nd, rfl⟩⟩))
             go_meet
             case rel => exact ⟨_, (true), (by first | rfl | (simp; done) | (simp [*]; done)), H', ⟨by have := HJ23.out; first | omega | exact Nat.le_refl _⟩, ⟨by (with_reducible repeat (first | apply Kd.R_alloc | apply Kd.R_drewN | apply Kd.R_drew)); exact Kd.R_mono HO_8.out (fun _ hk => by first | exact hk.2.1 | grind)⟩, ⟨by (with_reducible repeat (first | apply Kd.R_alloc | apply Kd.R_drewN | apply Kd.R_drew)); exact Kd.R_mono HO_13.out (fun _ hk => by first | exact hk.1 | grind)⟩, ⟨by (with_reducible repeat (first | apply Kd.R_alloc | apply Kd.R_drewN | apply Kd.R_drew)); exact Kd.R_mono HO_237001.out (fun _ hk => trivial)⟩, ⟨bk BK215⟩, ⟨bk BK236⟩, ⟨bw⟩⟩
          case rest =>
           clear HC67
           try clear c1
           try clear c2
           try clear p2
           try clear c3
           try clear c4
           try clear c4b0
           try clear c4b1
           try clear c5
           try clear c6
           try clear c7
           try clear c7b0
           try clear c8
           try clear c10
           try clear c12
           try clear c12b0
           try clear c13
           try clear c14
           try clear c18
           try clear c19
           try clear c20
           try clear c23
           try clear c24
           try clear c27
           try clear c29
           try clear c30
           try clear c31
           try clear c32
           try clear c39
           try clear c49
           try clear c54
           try clear c57
           try clear c60
           try clear c63
           try clear c77
           try clear c82
           try clear c82b0
           try clear c84
           try clear hcz14_0
           try clear hcz14_1
           try clear hcz26_0
           try clear hcz26_1
           try clear hcz28_0
           try clear hcz28_1
           try clear hcz36_0
           try clear hcz36_1
           try clear hcz40_0
           try clear hcz40_1
           try clear hcz44_0
           try clear hcz44_1
           try clear hcz78_0
           try clear hcz78_1
           try clear hcz9_0
           try clear hcz9_1
           try clear hfz14_0
           try clear hfz14_1
           try clear hfz26_0
           try clear hfz26_1
           try clear hfz28_0
           try clear hfz28_1
           try clear hfz36_0
           try clear hfz36_1
           try clear hfz40_0
           try clear hfz40_1
           try clear hfz44_0
           try clear hfz44_1
           try clear hfz78_0
           try clear hfz78_1
           try clear hfz9_0
           try clear hfz9_1
           try clear p2
           obtain ⟨kq, x101_66, rfl, HA, HJ66, HO_8, HO_13, HO_237001, BK215, BK236, HB⟩ := hcut
           have hl237001_66 := (Kd.R_reads' HO_237001.out).1
           rw [hl237001_66] at HO_237001
           (try simp only [hl237001_66])
           (try simp only [hl237001_66] at BK215)
           (try simp only [hl237001_66] at BK236)
           (try simp only [hl237001_66] at HO_8)
           (try simp only [hl237001_66] at HO_13)
           cases kq with
           | zero => exact absurd HA.out (by simp [laws_FnExactOrderRun.j1])
           | succ kj66 =>
            have H := HA.out
            clear HA
            simp only [laws_FnExactOrderRun.j1] at H
            by_cases c89 : x101_66 = true
            ·subst c89
             have H1 : (some false) = some r := by rw [if_pos rfl] at H; exact H
             clear H
             have H := H1
             clear H1
             obtain rfl := Option.some.inj H
             go_wp2
             go_ret
             exact ⟨by first | rfl | (simp [errW_none, errW_some] <;> rfl) | (simp [*, errW_none, errW_some] <;> rfl), bw⟩
            ·replace c89 := Bool.eq_false_iff.mpr c89
             subst c89
             have H1 : ((laws_markBoolS.f kj66 t243 1).bind fun bt268 => ((laws_heldBoolS.f kj66 bt268.2 1).bind fun t270 => (if t270 < 0 then (some false) else (if t270 = bt268.1 then ((laws_toNet.f kj66 a0_0 l0_1).bind fun bt271 => ((laws_toBoolS.f kj66 l1).bind fun t275 => ((laws_toStepS.f kj66 l2).bind fun t278 => ((impl_OrderRun.f kj66 bt271.1 bt271.2 t275 t278).bind fun bt281 => ((laws_eqBoolS.f kj66 bt281.1 t228).bind fun t285 => (if t285 = true then (laws_FnExactOrderRun.j2 kj66 bt268.2 bt268.1 (bt281.2 != t231)) else (laws_FnExactOrderRun.j2 kj66 bt268.2 bt268.1 true))))))) else (some false))))) = some r := by rw [if_neg (show ¬ (false = true) by decide)] at H; exact H
             clear H
             have H := H1
             clear H1
             replace H := Option.bind_eq_some_iff.mp H
             obtain ⟨⟨t268, t269⟩, A900, H⟩ := H
             replace H : ((laws_heldBoolS.f kj66 t269 1).bind fun t270 => (if t270 < 0 then (some false) else (if t270 = t268 then ((laws_toNet.f kj66 a0_0 l0_1).bind fun bt271 => ((laws_toBoolS.f kj66 l1).bind fun t275 => ((laws_toStepS.f kj66 l2).bind fun t278 => ((impl_OrderRun.f kj66 bt271.1 bt271.2 t275 t278).bind fun bt281 => ((laws_eqBoolS.f kj66 bt281.1 t228).bind fun t285 => (if t285 = true then (laws_FnExactOrderRun.j2 kj66 t269 t268 (bt281.2 != t231)) else (laws_FnExactOrderRun.j2 kj66 t269 t268 true))))))) else (some false)))) = some r := H
             have A90 := Aside0.mk A900
             clear A900
             replace H := Option.bind_eq_some_iff.mp H
             obtain ⟨t270, A910, H⟩ := H
             replace H : (if t270 < 0 then (some false) else (if t270 = t268 then ((laws_toNet.f kj66 a0_0 l0_1).bind fun bt271 => ((laws_toBoolS.f kj66 l1).bind fun t275 => ((laws_toStepS.f kj66 l2).bind fun t278 => ((impl_OrderRun.f kj66 bt271.1 bt271.2 t275 t278).bind fun bt281 => ((laws_eqBoolS.f kj66 bt281.1 t228).bind fun t285 => (if t285 = true then (laws_FnExactOrderRun.j2 kj66 t269 t268 (bt281.2 != t231)) else (laws_FnExactOrderRun.j2 kj66 t269 t268 true))))))) else (some false))) = some r := H
             have A91 := Aside0.mk A910
             clear A910
             by_cases c92 : t270 < 0
             ·rw [if_pos c92] at H
              have c92b0 : decide (t270 < 0) = true := decide_eq_true c92
              clear c92
              obtain rfl := Option.some.inj H
              obtain ⟨Ao93, co93, eo93⟩ := Kd.R_slice HO_13.out
              subst eo93
              go_wp2_with (first | ((with_reducible refine gate_callee (f := 24) rfl ?_); refine goesL_ (some 104) rfl rfl Try.func24 (by kernel_rfl) rfl #[.slice Ao93 t243.length co93, .int .i64 1] rfl (by (try simp only [List.map_toArray, List.map_cons, List.map_nil]); first | done | rfl | (simp only [List.length_drop, List.length_take]; rfl)) ?_; (with_reducible refine (laws_markBoolS.calls kj66 (fun k_ => some k_ = (.slice Ao93 t243.length co93 : Value).ownBlock) (.slice Ao93 t243.length co93) t243 1 t268 t269 w _ ?side1 ?side2 A90.out).mono ?_); (case side1 => exact bw); (case side2 => exact Kd.R_tight rfl HO_13.out); rintro e w94 ⟨rfl, hy0, hb, hkp⟩; refine ⟨_, rfl, ?_⟩; have n0_ := Aside0.mk (Kd.R_mono (ok' := fun k_ => some k_ ≠ (.slice Ao93 t243.length co93 : Value).ownBlock) (Kd.R_keptB (HO_8.out) hkp (fun k_ hk_ hs_ => by first | exact (hk_) hs_ | grind)) (fun k_ hk_ => by first | exact hk_.1 | grind)); have n1_ := Aside0.mk (Kd.R_reok rfl hy0 (fun k_ e_ => HO_13.out.1 k_ e_)); have n2_ := Aside0.mk (Kd.R_mono (ok' := fun k_ => True) (Kd.R_keptB ((Kd.R_apart' HO_237001.out (Kd.R_typed HO_13.out) (by decide))) hkp (fun k_ hk_ hs_ => by first | exact (hk_.2) hs_ | grind)) (fun k_ hk_ => trivial)); have n3_ := Aside0.mk (blk_kept (bk BK215) hkp (fun hs_ => (fun e_ => (Kd.R_ne HO_13.out BK215.out (by decide)) e_) hs_)); have n4_ := Aside0.mk (blk_kept (bk BK236) hkp (fun hs_ => (fun e_ => (Kd.R_ne HO_13.out BK236.out (by decide)) e_) hs_)); have n5_ := Aside0.mk (hb); clear HO_8 HO_13 HO_237001 BK215 BK236 HB; have HO_8 := n0_; have HO_13 := n1_; have HO_237001 := n2_; have BK215 := n3_; have BK236 := n4_; have HB := n5_; clear n0_ n1_ n2_ n3_ n4_ n5_; (try clear hb); (try clear hkp); (try clear hy0)) | ((with_reducible refine gate_callee (f := 33) rfl ?_); refine goesL_ (some 107) rfl rfl Try.func33 (by kernel_rfl) rfl #[.slice Ao93 t269.length co93, .int .i64 1] rfl (by (try simp only [List.map_toArray, List.map_cons, List.map_nil]); first | done | (rw [show t269.length = t243.length from (Kd.R_reads' HO_13.out).1.symm] <;> rfl) | rfl | (simp only [List.length_drop, List.length_take]; rfl)) ?_; (with_reducible refine (laws_heldBoolS.calls kj66 _ _ t269 1 t270 _ ?side1 ?side2 A91.out).mono ?_); (case side1 => repeat (first | exact (Kd.R_reads' HO_13.out).2.2 | (with_reducible refine Kd.C_alloc ?_ _) | (with_reducible refine Kd.C_drewN ?_ _) | (with_reducible refine Kd.C_drew ?_))); (case side2 => rw [show t269.length = t243.length from (Kd.R_reads' HO_13.out).1.symm]; exact (Kd.R_reads' HO_13.out).2.1); rintro e w' ⟨rfl, ⟨nd, rfl⟩⟩; refine ⟨_, rfl, ?_⟩))
              go_ret
              exact ⟨by first | rfl | (simp [errW_none, errW_some] <;> rfl) | (simp [*, errW_none, errW_some] <;> rfl), bw⟩
             ·rw [if_neg c92] at H
              have c92b0 : decide (t270 < 0) = false := decide_eq_false c92
              clear c92
              by_cases c95 : t270 = t268
              ·rw [if_pos c95] at H
               have c95b0 : (t270 == t268) = true := beq_iff_eq.mpr c95
               have c95b1 : (t270 != t268) = false := bne_eq_false_iff_eq.mpr c95
               clear c95
               replace H := Option.bind_eq_some_iff.mp H
               obtain ⟨⟨t271, t272⟩, A960, H⟩ := H
               replace H : ((laws_toBoolS.f kj66 l1).bind fun t275 => ((laws_toStepS.f kj66 l2).bind fun t278 => ((impl_OrderRun.f kj66 t271 t272 t275 t278).bind fun bt281 => ((laws_eqBoolS.f kj66 bt281.1 t228).bind fun t285 => (if t285 = true then (laws_FnExactOrderRun.j2 kj66 t269 t268 (bt281.2 != t231)) else (laws_FnExactOrderRun.j2 kj66 t269 t268 true)))))) = some r := H
               have A96 := Aside0.mk A960
               clear A960
               replace H := Option.bind_eq_some_iff.mp H
               obtain ⟨t275, A970, H⟩ := H
               replace H : ((laws_toStepS.f kj66 l2).bind fun t278 => ((impl_OrderRun.f kj66 t271 t272 t275 t278).bind fun bt281 => ((laws_eqBoolS.f kj66 bt281.1 t228).bind fun t285 => (if t285 = true then (laws_FnExactOrderRun.j2 kj66 t269 t268 (bt281.2 != t231)) else (laws_FnExactOrderRun.j2 kj66 t269 t268 true))))) = some r := H
               have A97 := Aside0.mk A970
               clear A970
               replace H := Option.bind_eq_some_iff.mp H
               obtain ⟨t278, A980, H⟩ := H
               replace H : ((impl_OrderRun.f kj66 t271 t272 t275 t278).bind fun bt281 => ((laws_eqBoolS.f kj66 bt281.1 t228).bind fun t285 => (if t285 = true then (laws_FnExactOrderRun.j2 kj66 t269 t268 (bt281.2 != t231)) else (laws_FnExactOrderRun.j2 kj66 t269 t268 true)))) = some r := H
               have A98 := Aside0.mk A980
               clear A980
               replace H := Option.bind_eq_some_iff.mp H
               obtain ⟨⟨t281, t284⟩, A990, H⟩ := H
               replace H : ((laws_eqBoolS.f kj66 t281 t228).bind fun t285 => (if t285 = true then (laws_FnExactOrderRun.j2 kj66 t269 t268 (t284 != t231)) else (laws_FnExactOrderRun.j2 kj66 t269 t268 true))) = some r := H
               have A99 := Aside0.mk A990
               clear A990
               have HC100 := Aside0.mk H
               clear H
               obtain ⟨Ao101, co101, eo101⟩ := Kd.R_slice HO_13.out
               subst eo101
               have TK0_ := Aside0.mk trivial
               go_upto_region 38 with (first | (clear TK0_; (with_reducible refine gate_callee (f := 24) rfl ?_); refine goesL_ (some 104) rfl rfl Try.func24 (by kernel_rfl) rfl #[.slice Ao101 t243.length co101, .int .i64 1] rfl (by (try simp only [List.map_toArray, List.map_cons, List.map_nil]); first | done | rfl | (simp only [List.length_drop, List.length_take]; rfl)) ?_; (with_reducible refine (laws_markBoolS.calls kj66 (fun k_ => some k_ = (.slice Ao101 t243.length co101 : Value).ownBlock) (.slice Ao101 t243.length co101) t243 1 t268 t269 w _ ?side1 ?side2 A90.out).mono ?_); (case side1 => exact bw); (case side2 => exact Kd.R_tight rfl HO_13.out); rintro e w102 ⟨rfl, hy0, hb, hkp⟩; refine ⟨_, rfl, ?_⟩; have n0_ := Aside0.mk (Kd.R_mono (ok' := fun k_ => some k_ ≠ (.slice Ao101 t243.length co101 : Value).ownBlock) (Kd.R_keptB (HO_8.out) hkp (fun k_ hk_ hs_ => by first | exact (hk_) hs_ | grind)) (fun k_ hk_ => by first | exact hk_.1 | grind)); have n1_ := Aside0.mk (Kd.R_reok rfl hy0 (fun k_ e_ => HO_13.out.1 k_ e_)); have n2_ := Aside0.mk (Kd.R_mono (ok' := fun k_ => True) (Kd.R_keptB ((Kd.R_apart' HO_237001.out (Kd.R_typed HO_13.out) (by decide))) hkp (fun k_ hk_ hs_ => by first | exact (hk_.2) hs_ | grind)) (fun k_ hk_ => trivial)); have n3_ := Aside0.mk (blk_kept (bk BK215) hkp (fun hs_ => (fun e_ => (Kd.R_ne HO_13.out BK215.out (by decide)) e_) hs_)); have n4_ := Aside0.mk (blk_kept (bk BK236) hkp (fun hs_ => (fun e_ => (Kd.R_ne HO_13.out BK236.out (by decide)) e_) hs_)); have n5_ := Aside0.mk (hb); clear HO_8 HO_13 HO_237001 BK215 BK236 HB; have HO_8 := n0_; have HO_13 := n1_; have HO_237001 := n2_; have BK215 := n3_; have BK236 := n4_; have HB := n5_; clear n0_ n1_ n2_ n3_ n4_ n5_; (try clear hb); (try clear hkp); (try clear hy0); have TK1_ := Aside0.mk trivial) | (clear TK1_; (with_reducible refine gate_callee (f := 33) rfl ?_); refine goesL_ (some 107) rfl rfl Try.func33 (by kernel_rfl) rfl #[.slice Ao101 t269.length co101, .int .i64 1] rfl (by (try simp only [List.map_toArray, List.map_cons, List.map_nil]); first | done | (rw [show t269.length = t243.length from (Kd.R_reads' HO_13.out).1.symm] <;> rfl) | rfl | (simp only [List.length_drop, List.length_take]; rfl)) ?_; (with_reducible refine (laws_heldBoolS.calls kj66 _ _ t269 1 t270 _ ?side1 ?side2 A91.out).mono ?_); (case side1 => repeat (first | exact (Kd.R_reads' HO_13.out).2.2 | (with_reducible refine Kd.C_alloc ?_ _) | (with_reducible refine Kd.C_drewN ?_ _) | (with_reducible refine Kd.C_drew ?_))); (case side2 => rw [show t269.length = t243.length from (Kd.R_reads' HO_13.out).1.symm]; exact (Kd.R_reads' HO_13.out).2.1); rintro e w' ⟨rfl, ⟨nd, rfl⟩⟩; refine ⟨_, rfl, ?_⟩; have hnb103 := NB215_236.out; have hnc103 := NB236_215.out; have hcz104_0 : w102.cell? ⟨gb215, 0, none⟩ = some (.int .i64 a0_0) := (blk_cell BK215.out 0).trans rfl; have hcz104_1 : w102.cell? ⟨gb215, 1, none⟩ = some (.slice A0_1 l0_1.length c0_1) := (blk_cell BK215.out 1).trans rfl; have hfz104_0 := blk_frozen BK215.out 0; have hfz104_1 := blk_frozen BK215.out 1; have TK2_ := Aside0.mk trivial) | (clear TK2_; (with_reducible refine gate_callee (f := 13) rfl ?_); refine goesL_ (some 115) rfl rfl Try.func13 (by kernel_rfl) rfl #[.agg #[.int .i64 a0_0, .slice A0_1 l0_1.length c0_1]] rfl (by (try simp only [List.map_toArray, List.map_cons, List.map_nil]); first | done | rfl | (simp only [List.length_drop, List.length_take]; rfl)) ?_; (with_reducible refine (laws_toNet.calls kj66 a0_0 _ _ l0_1 t271 t272 _ ?side1 ?side2 A96.out).mono ?_); (case side1 => repeat (first | exact (Kd.C_below HR0_1.out bw) | (with_reducible refine Kd.C_alloc ?_ _) | (with_reducible refine Kd.C_drewN ?_ _) | (with_reducible refine Kd.C_drew ?_))); (case side2 => exact HC0_1.out); rintro e w105 ⟨v273, rfl, ho0, hb⟩; refine ⟨_, rfl, ?_⟩; have n0_ := rB HO_8 hb; have n1_ := rB HO_13 hb; have n2_ := Aside0.mk (Kd.R_elder' (rk HO_237001) (Kd.R_base ho0) hb); have n3_ := Aside0.mk (Kd.R_lower (Kd.R_new' ho0 (Kd.R_lt (rk HO_237001))) (below_size bw)); have n4_ := bkB BK215 hb; have n5_ := bkB BK236 hb; have n6_ := Aside0.mk (below_step bw hb); clear HO_8 HO_13 HO_237001 BK215 BK236 HB; have HO_8 := n0_; have HO_13 := n1_; have HO_237001 := n2_; have HO274 := n3_; have BK215 := n4_; have BK236 := n5_; have HB := n6_; clear n0_ n1_ n2_ n3_ n4_ n5_ n6_; (try clear hb); (try clear hb2); (try clear hk); (try clear hi); (try clear ho0); have TK3_ := Aside0.mk trivial) | (clear TK3_; (with_reducible refine gate_callee (f := 14) rfl ?_); refine goesL_ (some 117) rfl rfl Try.func14 (by kernel_rfl) rfl #[.slice A1 l1.length c1] rfl (by (try simp only [List.map_toArray, List.map_cons, List.map_nil]); first | done | rfl | (simp only [List.length_drop, List.length_take]; rfl)) ?_; (with_reducible refine (laws_toBoolS.calls kj66 _ _ l1 t275 _ ?side1 ?side2 A97.out).mono ?_); (case side1 => exact cb HR1); (case side2 => exact HC1.out); rintro e w106 ⟨v276, rfl, ho0, hb⟩; refine ⟨_, rfl, ?_⟩; have n0_ := Aside0.mk (Kd.R_elder' (rk HO_8) (Kd.R_base ho0) hb); have n1_ := Aside0.mk (Kd.R_elder' (rk HO_13) (Kd.R_base ho0) hb); have n2_ := rB HO_237001 hb; have n3_ := rB HO274 hb; have n4_ := Aside0.mk (Kd.R_lower (Kd.R_new' (Kd.R_new' ho0 (Kd.R_lt (rk HO_8))) (Kd.R_lt (rk HO_13))) (below_size bw)); have n5_ := bkB BK215 hb; have n6_ := bkB BK236 hb; have n7_ := Aside0.mk (below_step bw hb); clear HO_8 HO_13 HO_237001 HO274 BK215 BK236 HB; have HO_8 := n0_; have HO_13 := n1_; have HO_237001 := n2_; have HO274 := n3_; have HO277 := n4_; have BK215 := n5_; have BK236 := n6_; have HB := n7_; clear n0_ n1_ n2_ n3_ n4_ n5_ n6_ n7_; (try clear hb); (try clear hb2); (try clear hk); (try clear hi); (try clear ho0); have TK4_ := Aside0.mk trivial) | (clear TK4_; (with_reducible refine gate_callee (f := 31) rfl ?_); refine goesL_ (some 119) rfl rfl Try.func31 (by kernel_rfl) rfl #[.slice A2 l2.length c2] rfl (by (try simp only [List.map_toArray, List.map_cons, List.map_nil]); first | done | rfl | (simp only [List.length_drop, List.length_take]; rfl)) ?_; (with_reducible refine (laws_toStepS.calls kj66 _ _ l2 t278 _ ?side1 ?side2 A98.out).mono ?_); (case side1 => exact cb HR2); (case side2 => exact HC2.out); rintro e w107 ⟨v279, rfl, ho0, hb⟩; refine ⟨_, rfl, ?_⟩; have n0_ := rB HO_8 hb; have n1_ := rB HO_13 hb; have n2_ := rB HO_237001 hb; have n3_ := rB HO274 hb; have n4_ := rB HO277 hb; have n5_ := Aside0.mk (Kd.R_lower ho0 (below_size bw)); have n6_ := bkB BK215 hb; have n7_ := bkB BK236 hb; have n8_ := Aside0.mk (below_step bw hb); clear HO_8 HO_13 HO_237001 HO274 HO277 BK215 BK236 HB; have HO_8 := n0_; have HO_13 := n1_; have HO_237001 := n2_; have HO274 := n3_; have HO277 := n4_; have HO280 := n5_; have BK215 := n6_; have BK236 := n7_; have HB := n8_; clear n0_ n1_ n2_ n3_ n4_ n5_ n6_ n7_ n8_; (try clear hb); (try clear hb2); (try clear hk); (try clear hi); (try clear ho0); obtain ⟨Ao108, co108, eo108⟩ := Kd.R_slice HO274.out; subst eo108; obtain ⟨Ao109, co109, eo109⟩ := Kd.R_slice HO277.out; subst eo109; obtain ⟨Ao110, co110, eo110⟩ := Kd.R_slice HO280.out; subst eo110; have TK5_ := Aside0.mk trivial) | (clear TK5_; (with_reducible refine gate_callee (f := 32) rfl ?_); refine goesL_ (some 120) rfl rfl Try.func32 (by kernel_rfl) rfl #[.agg #[.int .i64 t271, .slice Ao108 t272.length co108], .slice Ao109 t275.length co109, .slice Ao110 t278.length co110] rfl (by (try simp only [List.map_toArray, List.map_cons, List.map_nil]); first | done | rfl | (simp only [List.length_drop, List.length_take]; rfl)) ?_; (with_reducible refine (impl_OrderRun.calls kj66 t271 _ _ t272 _ _ t275 _ _ t278 t281 t284 _ ?side1 ?side2 ?side3 ?side4 ?side5 ?side6 A99.out).mono ?_); (case side1 => repeat (first | exact (Kd.R_reads' HO274.out).2.2 | (with_reducible refine Kd.C_alloc ?_ _) | (with_reducible refine Kd.C_drewN ?_ _) | (with_reducible refine Kd.C_drew ?_))); (case side2 => exact (Kd.R_reads' HO274.out).2.1); (case side3 => repeat (first | exact (Kd.R_reads' HO277.out).2.2 | (with_reducible refine Kd.C_alloc ?_ _) | (with_reducible refine Kd.C_drewN ?_ _) | (with_reducible refine Kd.C_drew ?_))); (case side4 => exact (Kd.R_reads' HO277.out).2.1); (case side5 => repeat (first | exact (Kd.R_reads' HO280.out).2.2 | (with_reducible refine Kd.C_alloc ?_ _) | (with_reducible refine Kd.C_drewN ?_ _) | (with_reducible refine Kd.C_drew ?_))); (case side6 => exact (Kd.R_reads' HO280.out).2.1); rintro e w111 ⟨v282, rfl, ho0, hb⟩; refine ⟨_, rfl, ?_⟩; have n0_ := Aside0.mk (Kd.R_elder' (rk HO_8) (Kd.R_base ho0) hb); have n1_ := Aside0.mk (Kd.R_elder' (rk HO_13) (Kd.R_base ho0) hb); have n2_ := rB HO_237001 hb; have n3_ := rB HO274 hb; have n4_ := Aside0.mk (Kd.R_elder' (rk HO277) (Kd.R_base ho0) hb); have n5_ := rB HO280 hb; have n6_ := Aside0.mk (Kd.R_lower (Kd.R_new' (Kd.R_new' (Kd.R_new' ho0 (Kd.R_lt (rk HO_8))) (Kd.R_lt (rk HO_13))) (Kd.R_lt (rk HO277))) (below_size bw)); have n7_ := bkB BK215 hb; have n8_ := bkB BK236 hb; have n9_ := Aside0.mk (below_step bw hb); clear HO_8 HO_13 HO_237001 HO274 HO277 HO280 BK215 BK236 HB; have HO_8 := n0_; have HO_13 := n1_; have HO_237001 := n2_; have HO274 := n3_; have HO277 := n4_; have HO280 := n5_; have HO283 := n6_; have BK215 := n7_; have BK236 := n8_; have HB := n9_; clear n0_ n1_ n2_ n3_ n4_ n5_ n6_ n7_ n8_ n9_; (try clear hb); (try clear hb2); (try clear hk); (try clear hi); (try clear ho0); have TK6_ := Aside0.mk trivial))
               (try simp only [Act.put, List.setIfInBounds_toArray, List.set_cons_zero, List.set_cons_succ])
               go_cut [131] (fun v131 wc => ∃ (kq : Nat) (x131_99 : Bool), v131 = .bool x131_99 ∧ Aside0 (laws_FnExactOrderRun.j2 kq t269 t268 x131_99 = some r) ∧ Aside0 (kq ≤ kj66) ∧ Aside0 (Kd.R Kd.bool 4 wc w.heap.size (fun _ => True) (.slice Ao101 t243.length co101) t269) ∧ Aside0 (Kd.R k139 139 wc w.heap.size (fun _ => True) (.slice Ao41 t262.length co41) t262) ∧ Aside0 (wc.heap[gb215]? = some (.cells #[.int .i64 a0_0, (.slice A0_1 l0_1.length c0_1)] 24 (0, 0))) ∧ Aside0 (wc.heap[gb236]? = some (.cells #[.int .i64 t232, (.slice Ao41 t262.length co41)] 35 (0, 0))) ∧ Aside0 (Below w.heap.size w wc))
               case first =>
                have H := HC100.out
                clear HC100
                replace H := Option.bind_eq_some_iff.mp H
                obtain ⟨t285, A1120, H⟩ := H
                replace H : (if t285 = true then (laws_FnExactOrderRun.j2 kj66 t269 t268 (t284 != t231)) else (laws_FnExactOrderRun.j2 kj66 t269 t268 true)) = some r := H
                have A112 := Aside0.mk A1120
                clear A1120
                by_cases c113 : t285 = true
                ·subst c113
                 have H1 : (laws_FnExactOrderRun.j2 kj66 t269 t268 (t284 != t231)) = some r := by rw [if_pos rfl] at H; exact H
                 clear H
                 have H := H1
                 clear H1
                 have H' := Aside0.mk H
                 clear H
                 obtain ⟨Ao114, co114, eo114⟩ := Kd.R_slice HO283.out
                 subst eo114
                 obtain ⟨Ao115, co115, eo115⟩ := Kd.R_slice HO_8.out
                 subst eo115
                 go_wp2_with (first | ((with_reducible refine gate_callee (f := 20) rfl ?_); refine goesL_ (some 125) rfl rfl Try.func20 (by kernel_rfl) rfl #[.slice Ao114 t281.length co114, .slice Ao115 t228.length co115] rfl (by (try simp only [List.map_toArray, List.map_cons, List.map_nil]); first | done | rfl | (simp only [List.length_drop, List.length_take]; rfl)) ?_; (with_reducible refine (laws_eqBoolS.calls kj66 _ _ t281 _ _ t228 true _ ?side1 ?side2 ?side3 ?side4 A112.out).mono ?_); (case side1 => repeat (first | exact (Kd.R_reads' HO283.out).2.2 | (with_reducible refine Kd.C_alloc ?_ _) | (with_reducible refine Kd.C_drewN ?_ _) | (with_reducible refine Kd.C_drew ?_))); (case side2 => exact (Kd.R_reads' HO283.out).2.1); (case side3 => repeat (first | exact (Kd.R_reads' HO_8.out).2.2 | (with_reducible refine Kd.C_alloc ?_ _) | (with_reducible refine Kd.C_drewN ?_ _) | (with_reducible refine Kd.C_drew ?_))); (case side4 => exact (Kd.R_reads' HO_8.out).2.1); rintro e w' ⟨rfl, ⟨nd, rfl⟩⟩; refine ⟨_, rfl, ?_⟩))
                 go_meet
                 case rel => exact ⟨_, ((t284 != t231)), (by first | rfl | (simp; done) | (simp [*]; done)), H', ⟨by have := HJ23.out; have := HJ66.out; first | omega | exact Nat.le_refl _⟩, ⟨by (try simp only [hl237001_66]); (with_reducible repeat (first | apply Kd.R_alloc | apply Kd.R_drewN | apply Kd.R_drew)); exact Kd.R_mono HO_13.out (fun _ hk => trivial)⟩, ⟨by (try simp only [hl237001_66]); (with_reducible repeat (first | apply Kd.R_alloc | apply Kd.R_drewN | apply Kd.R_drew)); exact Kd.R_mono HO_237001.out (fun _ hk => trivial)⟩, ⟨by (try simp only [hl237001_66]); (with_reducible repeat (first | refine blk_drewN ?_ _ | refine blk_drew ?_ | refine blk_alloc ?_ _)); exact BK215.out⟩, ⟨by (try simp only [hl237001_66]); (with_reducible repeat (first | refine blk_drewN ?_ _ | refine blk_drew ?_ | refine blk_alloc ?_ _)); exact BK236.out⟩, ⟨bw⟩⟩
                ·replace c113 := Bool.eq_false_iff.mpr c113
                 subst c113
                 have H1 : (laws_FnExactOrderRun.j2 kj66 t269 t268 true) = some r := by rw [if_neg (show ¬ (false = true) by decide)] at H; exact H
                 clear H
                 have H := H1
                 clear H1
                 have H' := Aside0.mk H
                 clear H
                 obtain ⟨Ao116, co116, eo116⟩ := Kd.R_slice HO283.out
                 subst eo116
                 obtain ⟨Ao117, co117, eo117⟩ := Kd.R_slice HO_8.out
                 subst eo117
                 go_wp2_with (first | ((with_reducible refine gate_callee (f := 20) rfl ?_); refine goesL_ (some 125) rfl rfl Try.func20 (by kernel_rfl) rfl #[.slice Ao116 t281.length co116, .slice Ao117 t228.length co117] rfl (by (try simp only [List.map_toArray, List.map_cons, List.map_nil]); first | done | rfl | (simp only [List.length_drop, List.length_take]; rfl)) ?_; (with_reducible refine (laws_eqBoolS.calls kj66 _ _ t281 _ _ t228 false _ ?side1 ?side2 ?side3 ?side4 A112.out).mono ?_); (case side1 => repeat (first | exact (Kd.R_reads' HO283.out).2.2 | (with_reducible refine Kd.C_alloc ?_ _) | (with_reducible refine Kd.C_drewN ?_ _) | (with_reducible refine Kd.C_drew ?_))); (case side2 => exact (Kd.R_reads' HO283.out).2.1); (case side3 => repeat (first | exact (Kd.R_reads' HO_8.out).2.2 | (with_reducible refine Kd.C_alloc ?_ _) | (with_reducible refine Kd.C_drewN ?_ _) | (with_reducible refine Kd.C_drew ?_))); (case side4 => exact (Kd.R_reads' HO_8.out).2.1); rintro e w' ⟨rfl, ⟨nd, rfl⟩⟩; refine ⟨_, rfl, ?_⟩))
                 go_meet
                 case rel => exact ⟨_, (true), (by first | rfl | (simp; done) | (simp [*]; done)), H', ⟨by have := HJ23.out; have := HJ66.out; first | omega | exact Nat.le_refl _⟩, ⟨by (try simp only [hl237001_66]); (with_reducible repeat (first | apply Kd.R_alloc | apply Kd.R_drewN | apply Kd.R_drew)); exact Kd.R_mono HO_13.out (fun _ hk => trivial)⟩, ⟨by (try simp only [hl237001_66]); (with_reducible repeat (first | apply Kd.R_alloc | apply Kd.R_drewN | apply Kd.R_drew)); exact Kd.R_mono HO_237001.out (fun _ hk => trivial)⟩, ⟨by (try simp only [hl237001_66]); (with_reducible repeat (first | refine blk_drewN ?_ _ | refine blk_drew ?_ | refine blk_alloc ?_ _)); exact BK215.out⟩, ⟨by (try simp only [hl237001_66]); (with_reducible repeat (first | refine blk_drewN ?_ _ | refine blk_drew ?_ | refine blk_alloc ?_ _)); exact BK236.out⟩, ⟨bw⟩⟩
               case rest =>
                clear HC100
                try clear c1
                try clear c2
                try clear p2
                try clear c3
                try clear c4
                try clear c4b0
                try clear c4b1
                try clear c5
                try clear c6
                try clear c7
                try clear c7b0
                try clear c8
                try clear c9
                try clear c10
                try clear c11
                try clear c12
                try clear c12b0
                try clear c13
                try clear c14
                try clear c18
                try clear c19
                try clear c20
                try clear c23
                try clear c24
                try clear c27
                try clear c29
                try clear c30
                try clear c31
                try clear c32
                try clear c33
                try clear c39
                try clear c49
                try clear c54
                try clear c57
                try clear c60
                try clear c63
                try clear c77
                try clear c82
                try clear c82b0
                try clear c84
                try clear c89
                try clear c92
                try clear c92b0
                try clear c95
                try clear c95b0
                try clear c95b1
                try clear c103
                try clear c113
                try clear hcz104_0
                try clear hcz104_1
                try clear hcz14_0
                try clear hcz14_1
                try clear hcz26_0
                try clear hcz26_1
                try clear hcz28_0
                try clear hcz28_1
                try clear hcz36_0
                try clear hcz36_1
                try clear hcz40_0
                try clear hcz40_1
                try clear hcz44_0
                try clear hcz44_1
                try clear hcz78_0
                try clear hcz78_1
                try clear hcz9_0
                try clear hcz9_1
                try clear hfz104_0
                try clear hfz104_1
                try clear hfz14_0
                try clear hfz14_1
                try clear hfz26_0
                try clear hfz26_1
                try clear hfz28_0
                try clear hfz28_1
                try clear hfz36_0
                try clear hfz36_1
                try clear hfz40_0
                try clear hfz40_1
                try clear hfz44_0
                try clear hfz44_1
                try clear hfz78_0
                try clear hfz78_1
                try clear hfz9_0
                try clear hfz9_1
                try clear p2
                obtain ⟨kq, x131_99, rfl, HA, HJ99, HO_13, HO_237001, BK215, BK236, HB⟩ := hcut
                have hl13_99 := (Kd.R_reads' HO_13.out).1
                rw [hl13_99] at HO_13
                (try simp only [hl13_99])
                (try simp only [hl13_99] at BK215)
                (try simp only [hl13_99] at BK236)
                (try simp only [hl13_99] at HO_237001)
                cases kq with
                | zero => exact absurd HA.out (by simp [laws_FnExactOrderRun.j2])
                | succ kj99 =>
                 have H := HA.out
                 clear HA
                 simp only [laws_FnExactOrderRun.j2] at H
                 by_cases c118 : x131_99 = true
                 ·subst c118
                  have H1 : (some false) = some r := by rw [if_pos rfl] at H; exact H
                  clear H
                  have H := H1
                  clear H1
                  obtain rfl := Option.some.inj H
                  go_wp2
                  go_ret
                  exact ⟨by first | rfl | (simp [errW_none, errW_some] <;> rfl) | (simp [*, errW_none, errW_some] <;> rfl), bw⟩
                 ·replace c118 := Bool.eq_false_iff.mpr c118
                  subst c118
                  have H1 : ((laws_heldBoolS.f kj99 t269 1).bind fun t286 => (if t286 < 0 then (some false) else (if t286 = t268 then (some true) else (some false)))) = some r := by rw [if_neg (show ¬ (false = true) by decide)] at H; exact H
                  clear H
                  have H := H1
                  clear H1
                  replace H := Option.bind_eq_some_iff.mp H
                  obtain ⟨t286, A1190, H⟩ := H
                  replace H : (if t286 < 0 then (some false) else (if t286 = t268 then (some true) else (some false))) = some r := H
                  have A119 := Aside0.mk A1190
                  clear A1190
                  by_cases c120 : t286 < 0
                  ·rw [if_pos c120] at H
                   have c120b0 : decide (t286 < 0) = true := decide_eq_true c120
                   clear c120
                   obtain rfl := Option.some.inj H
                   go_wp2_with (first | ((with_reducible refine gate_callee (f := 33) rfl ?_); refine goesL_ (some 134) rfl rfl Try.func33 (by kernel_rfl) rfl #[.slice Ao101 t269.length co101, .int .i64 1] rfl (by (try simp only [List.map_toArray, List.map_cons, List.map_nil]); first | done | rfl | (simp only [List.length_drop, List.length_take]; rfl)) ?_; (with_reducible refine (laws_heldBoolS.calls kj99 _ _ t269 1 t286 _ ?side1 ?side2 A119.out).mono ?_); (case side1 => repeat (first | exact (Kd.R_reads' HO_13.out).2.2 | (with_reducible refine Kd.C_alloc ?_ _) | (with_reducible refine Kd.C_drewN ?_ _) | (with_reducible refine Kd.C_drew ?_))); (case side2 => exact (Kd.R_reads' HO_13.out).2.1); rintro e w' ⟨rfl, ⟨nd, rfl⟩⟩; refine ⟨_, rfl, ?_⟩))
                   go_ret
                   exact ⟨by first | rfl | (simp [errW_none, errW_some] <;> rfl) | (simp [*, errW_none, errW_some] <;> rfl), bw⟩
                  ·rw [if_neg c120] at H
                   have c120b0 : decide (t286 < 0) = false := decide_eq_false c120
                   clear c120
                   by_cases c121 : t286 = t268
                   ·rw [if_pos c121] at H
                    have c121b0 : (t286 == t268) = true := beq_iff_eq.mpr c121
                    have c121b1 : (t286 != t268) = false := bne_eq_false_iff_eq.mpr c121
                    clear c121
                    obtain rfl := Option.some.inj H
                    go_wp2_with (first | ((with_reducible refine gate_callee (f := 33) rfl ?_); refine goesL_ (some 134) rfl rfl Try.func33 (by kernel_rfl) rfl #[.slice Ao101 t269.length co101, .int .i64 1] rfl (by (try simp only [List.map_toArray, List.map_cons, List.map_nil]); first | done | rfl | (simp only [List.length_drop, List.length_take]; rfl)) ?_; (with_reducible refine (laws_heldBoolS.calls kj99 _ _ t269 1 t286 _ ?side1 ?side2 A119.out).mono ?_); (case side1 => repeat (first | exact (Kd.R_reads' HO_13.out).2.2 | (with_reducible refine Kd.C_alloc ?_ _) | (with_reducible refine Kd.C_drewN ?_ _) | (with_reducible refine Kd.C_drew ?_))); (case side2 => exact (Kd.R_reads' HO_13.out).2.1); rintro e w' ⟨rfl, ⟨nd, rfl⟩⟩; refine ⟨_, rfl, ?_⟩))
                    go_ret
                    exact ⟨by first | rfl | (simp [errW_none, errW_some] <;> rfl) | (simp [*, errW_none, errW_some] <;> rfl), bw⟩
                   ·rw [if_neg c121] at H
                    have c121b0 : (t286 == t268) = false := beq_eq_false_iff_ne.mpr c121
                    have c121b1 : (t286 != t268) = true := bne_iff_ne.mpr c121
                    obtain rfl := Option.some.inj H
                    go_wp2_with (first | ((with_reducible refine gate_callee (f := 33) rfl ?_); refine goesL_ (some 134) rfl rfl Try.func33 (by kernel_rfl) rfl #[.slice Ao101 t269.length co101, .int .i64 1] rfl (by (try simp only [List.map_toArray, List.map_cons, List.map_nil]); first | done | rfl | (simp only [List.length_drop, List.length_take]; rfl)) ?_; (with_reducible refine (laws_heldBoolS.calls kj99 _ _ t269 1 t286 _ ?side1 ?side2 A119.out).mono ?_); (case side1 => repeat (first | exact (Kd.R_reads' HO_13.out).2.2 | (with_reducible refine Kd.C_alloc ?_ _) | (with_reducible refine Kd.C_drewN ?_ _) | (with_reducible refine Kd.C_drew ?_))); (case side2 => exact (Kd.R_reads' HO_13.out).2.1); rintro e w' ⟨rfl, ⟨nd, rfl⟩⟩; refine ⟨_, rfl, ?_⟩))
                    go_ret
                    exact ⟨by first | rfl | (simp [errW_none, errW_some] <;> rfl) | (simp [*, errW_none, errW_some] <;> rfl), bw⟩
              ·rw [if_neg c95] at H
               have c95b0 : (t270 == t268) = false := beq_eq_false_iff_ne.mpr c95
               have c95b1 : (t270 != t268) = true := bne_iff_ne.mpr c95
               obtain rfl := Option.some.inj H
               obtain ⟨Ao122, co122, eo122⟩ := Kd.R_slice HO_13.out
               subst eo122
               go_wp2_with (first | ((with_reducible refine gate_callee (f := 24) rfl ?_); refine goesL_ (some 104) rfl rfl Try.func24 (by kernel_rfl) rfl #[.slice Ao122 t243.length co122, .int .i64 1] rfl (by (try simp only [List.map_toArray, List.map_cons, List.map_nil]); first | done | rfl | (simp only [List.length_drop, List.length_take]; rfl)) ?_; (with_reducible refine (laws_markBoolS.calls kj66 (fun k_ => some k_ = (.slice Ao122 t243.length co122 : Value).ownBlock) (.slice Ao122 t243.length co122) t243 1 t268 t269 w _ ?side1 ?side2 A90.out).mono ?_); (case side1 => exact bw); (case side2 => exact Kd.R_tight rfl HO_13.out); rintro e w123 ⟨rfl, hy0, hb, hkp⟩; refine ⟨_, rfl, ?_⟩; have n0_ := Aside0.mk (Kd.R_mono (ok' := fun k_ => some k_ ≠ (.slice Ao122 t243.length co122 : Value).ownBlock) (Kd.R_keptB (HO_8.out) hkp (fun k_ hk_ hs_ => by first | exact (hk_) hs_ | grind)) (fun k_ hk_ => by first | exact hk_.1 | grind)); have n1_ := Aside0.mk (Kd.R_reok rfl hy0 (fun k_ e_ => HO_13.out.1 k_ e_)); have n2_ := Aside0.mk (Kd.R_mono (ok' := fun k_ => True) (Kd.R_keptB ((Kd.R_apart' HO_237001.out (Kd.R_typed HO_13.out) (by decide))) hkp (fun k_ hk_ hs_ => by first | exact (hk_.2) hs_ | grind)) (fun k_ hk_ => trivial)); have n3_ := Aside0.mk (blk_kept (bk BK215) hkp (fun hs_ => (fun e_ => (Kd.R_ne HO_13.out BK215.out (by decide)) e_) hs_)); have n4_ := Aside0.mk (blk_kept (bk BK236) hkp (fun hs_ => (fun e_ => (Kd.R_ne HO_13.out BK236.out (by decide)) e_) hs_)); have n5_ := Aside0.mk (hb); clear HO_8 HO_13 HO_237001 BK215 BK236 HB; have HO_8 := n0_; have HO_13 := n1_; have HO_237001 := n2_; have BK215 := n3_; have BK236 := n4_; have HB := n5_; clear n0_ n1_ n2_ n3_ n4_ n5_; (try clear hb); (try clear hkp); (try clear hy0)) | ((with_reducible refine gate_callee (f := 33) rfl ?_); refine goesL_ (some 107) rfl rfl Try.func33 (by kernel_rfl) rfl #[.slice Ao122 t269.length co122, .int .i64 1] rfl (by (try simp only [List.map_toArray, List.map_cons, List.map_nil]); first | done | (rw [show t269.length = t243.length from (Kd.R_reads' HO_13.out).1.symm] <;> rfl) | rfl | (simp only [List.length_drop, List.length_take]; rfl)) ?_; (with_reducible refine (laws_heldBoolS.calls kj66 _ _ t269 1 t270 _ ?side1 ?side2 A91.out).mono ?_); (case side1 => repeat (first | exact (Kd.R_reads' HO_13.out).2.2 | (with_reducible refine Kd.C_alloc ?_ _) | (with_reducible refine Kd.C_drewN ?_ _) | (with_reducible refine Kd.C_drew ?_))); (case side2 => rw [show t269.length = t243.length from (Kd.R_reads' HO_13.out).1.symm]; exact (Kd.R_reads' HO_13.out).2.1); rintro e w' ⟨rfl, ⟨nd, rfl⟩⟩; refine ⟨_, rfl, ?_⟩))
               go_ret
               exact ⟨by first | rfl | (simp [errW_none, errW_some] <;> rfl) | (simp [*, errW_none, errW_some] <;> rfl), bw⟩
         ·replace c63 := Bool.eq_false_iff.mpr c63
          subst c63
          have H1 : (some false) = some r := by rw [if_neg (show ¬ (false = true) by decide)] at H; exact H
          clear H
          have H := H1
          clear H1
          obtain rfl := Option.some.inj H
          try go_wp2
          have n0_ := Aside0.mk (Kd.R_drew HO_8.out)
          have n1_ := Aside0.mk (Kd.R_drew HO_11.out)
          have n2_ := Aside0.mk (Kd.R_drew HO_12.out)
          have n3_ := Aside0.mk (Kd.R_drew HO_13.out)
          have n4_ := Aside0.mk (Kd.R_drew HO_237001.out)
          have n5_ := Aside0.mk (blk_drew BK215.out)
          have n6_ := Aside0.mk (blk_drew BK236.out)
          have n7_ := Aside0.mk (below_drew1 HB.out)
          clear HO_8
          clear HO_11
          clear HO_12
          clear HO_13
          clear HO_237001
          clear BK215
          clear BK236
          clear HB
          have HO_8 := n0_
          have HO_11 := n1_
          have HO_12 := n2_
          have HO_13 := n3_
          have HO_237001 := n4_
          have BK215 := n5_
          have BK236 := n6_
          have HB := n7_
          clear n0_ n1_ n2_ n3_ n4_ n5_ n6_ n7_
          refine start_ (n := 5) (S := fun w' => w'.cell? ⟨gb236, 0, none⟩ = some (.int .i64 t232) ∧ w'.cell? ⟨gb236, 1, none⟩ = some (.slice Ao41 t233.length co41) ∧ w'.cell? ⟨gb215, 0, none⟩ = some (.int .i64 a0_0) ∧ w'.cell? ⟨gb215, 1, none⟩ = some (.slice A0_1 l0_1.length c0_1)) (ds := []) #[false, false, false, false, false] (by kernel_rfl) rfl rfl ⟨(blk_cell BK236.out 0).trans rfl, (blk_cell BK236.out 1).trans rfl, (blk_cell BK215.out 0).trans rfl, (blk_cell BK215.out 1).trans rfl⟩ (fun hHeld => ?_)
          generalize wc.drew = w124 at HO_8 HO_11 HO_12 HO_13 HO_237001 BK215 BK236 HB hHeld ⊢
          refine take_ (i := 0) (N := some 65) (v := ?_) (a' := ?_) #[true, false, false, false, false] rfl rfl (by kernel_rfl) (fun _ _ _ h => h) (Or.inl ⟨by rfl, ?_⟩) hHeld ?_ ?_
          rotate_left
          ·rintro w' ⟨s0, s1, s2, s3⟩
           go_simp
           with_reducible rfl
          rotate_left
          ·simp only [Act.put, List.setIfInBounds_toArray, List.set_cons_zero, List.set_cons_succ, i64_w, i32_w]
           rfl
          refine take_ (i := 1) (N := some 66) (v := ?_) (a' := ?_) #[true, true, false, false, false] rfl rfl (by kernel_rfl) (fun _ _ _ h => h) (Or.inl ⟨by rfl, ?_⟩) hHeld ?_ ?_
          rotate_left
          ·rintro w' ⟨s0, s1, s2, s3⟩
           go_simp
           with_reducible rfl
          rotate_left
          ·simp only [Act.put, List.setIfInBounds_toArray, List.set_cons_zero, List.set_cons_succ, i64_w, i32_w]
           rfl
          refine one_ (i := 2) (N := some 67) #[true, true, true, false, false] rfl rfl (by kernel_rfl) (by decide) (fun K hK => ?_)
          refine goes_ Try.func13 (by kernel_rfl) rfl #[.agg #[.int .i64 a0_0, .slice A0_1 l0_1.length c0_1]] (by rfl) rfl rfl (by (try simp only [List.map_toArray, List.map_cons, List.map_nil]); first | done | rfl | (simp only [List.length_drop, List.length_take]; rfl)) ?_
          with_reducible refine (laws_toNet.calls kj23 a0_0 _ _ l0_1 t248 t249 _ ?side1 ?side2 A55.out).mono ?_
          (case side1 => exact cb HR0_1)
          (case side2 => exact HC0_1.out)
          rintro e w125 ⟨v250, rfl, ho0, hb⟩
          refine ⟨_, rfl, ?_⟩
          have n0_ := rB HO_8 hb
          have n1_ := rB HO_11 hb
          have n2_ := rB HO_12 hb
          have n3_ := rB HO_13 hb
          have n4_ := Aside0.mk (Kd.R_elder' (rk HO_237001) (Kd.R_base ho0) hb)
          have n5_ := Aside0.mk (Kd.R_lower (Kd.R_new' ho0 (Kd.R_lt (rk HO_237001))) (below_size bw))
          have n6_ := bkB BK215 hb
          have n7_ := bkB BK236 hb
          have n8_ := Aside0.mk (below_step bw hb)
          clear HO_8
          clear HO_11
          clear HO_12
          clear HO_13
          clear HO_237001
          clear BK215
          clear BK236
          clear HB
          have HO_8 := n0_
          have HO_11 := n1_
          have HO_12 := n2_
          have HO_13 := n3_
          have HO_237001 := n4_
          have HO251 := n5_
          have BK215 := n6_
          have BK236 := n7_
          have HB := n8_
          clear n0_ n1_ n2_ n3_ n4_ n5_ n6_ n7_ n8_
          (try clear hb)
          (try clear hb2)
          (try clear hk)
          (try clear hi)
          (try clear ho0)
          obtain ⟨Ao126, co126, eo126⟩ := Kd.R_slice HO251.out
          (first | subst eo126 | (injection eo126 with f1_ f2_ f3_; have f4_ := f1_.symm; have f5_ := f3_.symm; clear f1_ f2_ f3_; subst f4_; subst f5_))
          refine hK.out _ _ ⟨(blk_cell BK236.out 0).trans rfl, (blk_cell BK236.out 1).trans rfl, (blk_cell BK215.out 0).trans rfl, (blk_cell BK215.out 1).trans rfl⟩ (fun hHeld => ?_)
          clear hK K
          refine norm_ (a' := ?_) ?_ ?_
          rotate_left
          ·show Act.put _ (some 67) _ = _
           simp only [Act.put, List.setIfInBounds_toArray, List.set_cons_zero, List.set_cons_succ, i64_w, i32_w]
           rfl
          refine one_ (i := 3) (N := some 68) #[true, true, true, true, false] rfl rfl (by kernel_rfl) (by decide) (fun K hK => ?_)
          refine goes_ Try.func19 (by kernel_rfl) rfl #[.agg #[.int .i64 t232, .slice Ao41 t233.length co41], .agg #[.int .i64 t248, .slice Ao126 t249.length co126]] (by rfl) rfl rfl (by (try simp only [List.map_toArray, List.map_cons, List.map_nil]); first | done | rfl | (simp only [List.length_drop, List.length_take]; rfl)) ?_
          with_reducible refine (laws_eqNet.calls kj23 t232 _ _ t233 t248 _ _ t249 true _ ?side1 ?side2 ?side3 ?side4 A56.out).mono ?_
          (case side1 => repeat (first | exact (Kd.R_reads' HO_237001.out).2.2 | (with_reducible refine Kd.C_alloc ?_ _) | (with_reducible refine Kd.C_drewN ?_ _) | (with_reducible refine Kd.C_drew ?_)))
          (case side2 => exact (Kd.R_reads' HO_237001.out).2.1)
          (case side3 => repeat (first | exact (Kd.R_reads' HO251.out).2.2 | (with_reducible refine Kd.C_alloc ?_ _) | (with_reducible refine Kd.C_drewN ?_ _) | (with_reducible refine Kd.C_drew ?_)))
          (case side4 => exact (Kd.R_reads' HO251.out).2.1)
          rintro e w127 ⟨rfl, hb⟩
          refine ⟨_, rfl, ?_⟩
          have n0_ := rB HO_8 hb
          have n1_ := rB HO_11 hb
          have n2_ := rB HO_12 hb
          have n3_ := rB HO_13 hb
          have n4_ := rB HO_237001 hb
          have n5_ := rB HO251 hb
          have n6_ := bkB BK215 hb
          have n7_ := bkB BK236 hb
          have n8_ := Aside0.mk (below_step bw hb)
          clear HO_8
          clear HO_11
          clear HO_12
          clear HO_13
          clear HO_237001
          clear HO251
          clear BK215
          clear BK236
          clear HB
          have HO_8 := n0_
          have HO_11 := n1_
          have HO_12 := n2_
          have HO_13 := n3_
          have HO_237001 := n4_
          have HO251 := n5_
          have BK215 := n6_
          have BK236 := n7_
          have HB := n8_
          clear n0_ n1_ n2_ n3_ n4_ n5_ n6_ n7_ n8_
          (try clear hb)
          (try clear hb2)
          (try clear hk)
          (try clear hi)
          refine hK.out _ _ ⟨(blk_cell BK236.out 0).trans rfl, (blk_cell BK236.out 1).trans rfl, (blk_cell BK215.out 0).trans rfl, (blk_cell BK215.out 1).trans rfl⟩ (fun hHeld => ?_)
          clear hK K
          refine norm_ (a' := ?_) ?_ ?_
          rotate_left
          ·show Act.put _ (some 68) _ = _
           simp only [Act.put, List.setIfInBounds_toArray, List.set_cons_zero, List.set_cons_succ, i64_w, i32_w]
           rfl
          refine pure_ (i := 4) (N := some 69) (v := ?_) (a' := ?_) #[true, true, true, true, true] rfl rfl (by kernel_rfl) (fun _ _ _ h => h) (Or.inl ⟨by rfl, ?_⟩) ?_ ?_
          rotate_left
          ·intro w'
           go_simp
           with_reducible rfl
          rotate_left
          ·simp only [Act.put, List.setIfInBounds_toArray, List.set_cons_zero, List.set_cons_succ, i64_w, i32_w]
           rfl
          refine done_ (by kernel_rfl) ?_
          have TK0_ := Aside0.mk trivial
          try go_wp2_with (first | (clear TK0_; (with_reducible refine gate_callee (f := 14) rfl ?_); refine goesL_ (some 72) rfl rfl Try.func14 (by kernel_rfl) rfl #[.slice A1 l1.length c1] rfl (by (try simp only [List.map_toArray, List.map_cons, List.map_nil]); first | done | rfl | (simp only [List.length_drop, List.length_take]; rfl)) ?_; (with_reducible refine (laws_toBoolS.calls kj23 _ _ l1 t253 _ ?side1 ?side2 A58.out).mono ?_); (case side1 => exact cb HR1); (case side2 => exact HC1.out); rintro e w128 ⟨v254, rfl, ho0, hb⟩; refine ⟨_, rfl, ?_⟩; have n0_ := Aside0.mk (Kd.R_elder' (rk HO_8) (Kd.R_base ho0) hb); have n1_ := Aside0.mk (Kd.R_elder' (rk HO_11) (Kd.R_base ho0) hb); have n2_ := rB HO_12 hb; have n3_ := Aside0.mk (Kd.R_elder' (rk HO_13) (Kd.R_base ho0) hb); have n4_ := rB HO_237001 hb; have n5_ := rB HO251 hb; have n6_ := Aside0.mk (Kd.R_lower (Kd.R_new' (Kd.R_new' (Kd.R_new' ho0 (Kd.R_lt (rk HO_8))) (Kd.R_lt (rk HO_11))) (Kd.R_lt (rk HO_13))) (below_size bw)); have n7_ := bkB BK215 hb; have n8_ := bkB BK236 hb; have n9_ := Aside0.mk (below_step bw hb); clear HO_8 HO_11 HO_12 HO_13 HO_237001 HO251 BK215 BK236 HB; have HO_8 := n0_; have HO_11 := n1_; have HO_12 := n2_; have HO_13 := n3_; have HO_237001 := n4_; have HO251 := n5_; have HO255 := n6_; have BK215 := n7_; have BK236 := n8_; have HB := n9_; clear n0_ n1_ n2_ n3_ n4_ n5_ n6_ n7_ n8_ n9_; (try clear hb); (try clear hb2); (try clear hk); (try clear hi); (try clear ho0); obtain ⟨Ao129, co129, eo129⟩ := Kd.R_slice HO255.out; subst eo129; have TK1_ := Aside0.mk trivial) | (clear TK1_; (with_reducible refine gate_callee (f := 20) rfl ?_); refine goesL_ (some 73) rfl rfl Try.func20 (by kernel_rfl) rfl #[.slice Ao45 t237.length co45, .slice Ao129 t253.length co129] rfl (by (try simp only [List.map_toArray, List.map_cons, List.map_nil]); first | done | rfl | (simp only [List.length_drop, List.length_take]; rfl)) ?_; (with_reducible refine (laws_eqBoolS.calls kj23 _ _ t237 _ _ t253 true _ ?side1 ?side2 ?side3 ?side4 A59.out).mono ?_); (case side1 => repeat (first | exact (Kd.R_reads' HO_11.out).2.2 | (with_reducible refine Kd.C_alloc ?_ _) | (with_reducible refine Kd.C_drewN ?_ _) | (with_reducible refine Kd.C_drew ?_))); (case side2 => exact (Kd.R_reads' HO_11.out).2.1); (case side3 => repeat (first | exact (Kd.R_reads' HO255.out).2.2 | (with_reducible refine Kd.C_alloc ?_ _) | (with_reducible refine Kd.C_drewN ?_ _) | (with_reducible refine Kd.C_drew ?_))); (case side4 => exact (Kd.R_reads' HO255.out).2.1); rintro e w' ⟨rfl, ⟨nd, rfl⟩⟩; refine ⟨_, rfl, ?_⟩; have TK2_ := Aside0.mk trivial) | (clear TK2_; (with_reducible refine gate_callee (f := 31) rfl ?_); refine goesL_ (some 77) rfl rfl Try.func31 (by kernel_rfl) rfl #[.slice A2 l2.length c2] rfl (by (try simp only [List.map_toArray, List.map_cons, List.map_nil]); first | done | rfl | (simp only [List.length_drop, List.length_take]; rfl)) ?_; (with_reducible refine (laws_toStepS.calls kj23 _ _ l2 t257 _ ?side1 ?side2 A61.out).mono ?_); (case side1 => repeat (first | exact (Kd.C_below HR2.out bw) | (with_reducible refine Kd.C_alloc ?_ _) | (with_reducible refine Kd.C_drewN ?_ _) | (with_reducible refine Kd.C_drew ?_))); (case side2 => exact HC2.out); rintro e w130 ⟨v258, rfl, ho0, hb⟩; refine ⟨_, rfl, ?_⟩; have n0_ := rB HO_8 hb; have n1_ := rB HO_11 hb; have n2_ := Aside0.mk (Kd.R_elder' (rk HO_12) (Kd.R_base ho0) hb); have n3_ := rB HO_13 hb; have n4_ := rB HO_237001 hb; have n5_ := rB HO251 hb; have n6_ := rB HO255 hb; have n7_ := Aside0.mk (Kd.R_lower (Kd.R_new' ho0 (Kd.R_lt (rk HO_12))) (below_size bw)); have n8_ := bkB BK215 hb; have n9_ := bkB BK236 hb; have n10_ := Aside0.mk (below_step bw hb); clear HO_8 HO_11 HO_12 HO_13 HO_237001 HO251 HO255 BK215 BK236 HB; have HO_8 := n0_; have HO_11 := n1_; have HO_12 := n2_; have HO_13 := n3_; have HO_237001 := n4_; have HO251 := n5_; have HO255 := n6_; have HO259 := n7_; have BK215 := n8_; have BK236 := n9_; have HB := n10_; clear n0_ n1_ n2_ n3_ n4_ n5_ n6_ n7_ n8_ n9_ n10_; (try clear hb); (try clear hb2); (try clear hk); (try clear hi); (try clear ho0); obtain ⟨Ao131, co131, eo131⟩ := Kd.R_slice HO259.out; subst eo131; have TK3_ := Aside0.mk trivial) | (clear TK3_; (with_reducible refine gate_callee (f := 18) rfl ?_); refine goesL_ (some 78) rfl rfl Try.func18 (by kernel_rfl) rfl #[.slice Ao46 t240.length co46, .slice Ao131 t257.length co131] rfl (by (try simp only [List.map_toArray, List.map_cons, List.map_nil]); first | done | rfl | (simp only [List.length_drop, List.length_take]; rfl)) ?_; (with_reducible refine (laws_eqStepS.calls kj23 _ _ t240 _ _ t257 false _ ?side1 ?side2 ?side3 ?side4 A62.out).mono ?_); (case side1 => repeat (first | exact (Kd.R_reads' HO_12.out).2.2 | (with_reducible refine Kd.C_alloc ?_ _) | (with_reducible refine Kd.C_drewN ?_ _) | (with_reducible refine Kd.C_drew ?_))); (case side2 => exact (Kd.R_reads' HO_12.out).2.1); (case side3 => repeat (first | exact (Kd.R_reads' HO259.out).2.2 | (with_reducible refine Kd.C_alloc ?_ _) | (with_reducible refine Kd.C_drewN ?_ _) | (with_reducible refine Kd.C_drew ?_))); (case side4 => exact (Kd.R_reads' HO259.out).2.1); rintro e w132 ⟨rfl, hb⟩; refine ⟨_, rfl, ?_⟩; have n0_ := rB HO_8 hb; have n1_ := rB HO_11 hb; have n2_ := rB HO_12 hb; have n3_ := rB HO_13 hb; have n4_ := rB HO_237001 hb; have n5_ := rB HO251 hb; have n6_ := rB HO255 hb; have n7_ := rB HO259 hb; have n8_ := bkB BK215 hb; have n9_ := bkB BK236 hb; have n10_ := Aside0.mk (below_step bw hb); clear HO_8 HO_11 HO_12 HO_13 HO_237001 HO251 HO255 HO259 BK215 BK236 HB; have HO_8 := n0_; have HO_11 := n1_; have HO_12 := n2_; have HO_13 := n3_; have HO_237001 := n4_; have HO251 := n5_; have HO255 := n6_; have HO259 := n7_; have BK215 := n8_; have BK236 := n9_; have HB := n10_; clear n0_ n1_ n2_ n3_ n4_ n5_ n6_ n7_ n8_ n9_ n10_; (try clear hb); (try clear hb2); (try clear hk); (try clear hi); have TK4_ := Aside0.mk trivial))
          go_ret
          exact ⟨by first | rfl | (simp [errW_none, errW_some] <;> rfl) | (simp [*, errW_none, errW_some] <;> rfl), bw⟩
        ·replace c60 := Bool.eq_false_iff.mpr c60
         subst c60
         have H1 : (some false) = some r := by rw [if_neg (show ¬ (false = true) by decide)] at H; exact H
         clear H
         have H := H1
         clear H1
         obtain rfl := Option.some.inj H
         try go_wp2
         have n0_ := Aside0.mk (Kd.R_drew HO_8.out)
         have n1_ := Aside0.mk (Kd.R_drew HO_11.out)
         have n2_ := Aside0.mk (Kd.R_drew HO_12.out)
         have n3_ := Aside0.mk (Kd.R_drew HO_13.out)
         have n4_ := Aside0.mk (Kd.R_drew HO_237001.out)
         have n5_ := Aside0.mk (blk_drew BK215.out)
         have n6_ := Aside0.mk (blk_drew BK236.out)
         have n7_ := Aside0.mk (below_drew1 HB.out)
         clear HO_8
         clear HO_11
         clear HO_12
         clear HO_13
         clear HO_237001
         clear BK215
         clear BK236
         clear HB
         have HO_8 := n0_
         have HO_11 := n1_
         have HO_12 := n2_
         have HO_13 := n3_
         have HO_237001 := n4_
         have BK215 := n5_
         have BK236 := n6_
         have HB := n7_
         clear n0_ n1_ n2_ n3_ n4_ n5_ n6_ n7_
         refine start_ (n := 5) (S := fun w' => w'.cell? ⟨gb236, 0, none⟩ = some (.int .i64 t232) ∧ w'.cell? ⟨gb236, 1, none⟩ = some (.slice Ao41 t233.length co41) ∧ w'.cell? ⟨gb215, 0, none⟩ = some (.int .i64 a0_0) ∧ w'.cell? ⟨gb215, 1, none⟩ = some (.slice A0_1 l0_1.length c0_1)) (ds := []) #[false, false, false, false, false] (by kernel_rfl) rfl rfl ⟨(blk_cell BK236.out 0).trans rfl, (blk_cell BK236.out 1).trans rfl, (blk_cell BK215.out 0).trans rfl, (blk_cell BK215.out 1).trans rfl⟩ (fun hHeld => ?_)
         generalize wc.drew = w133 at HO_8 HO_11 HO_12 HO_13 HO_237001 BK215 BK236 HB hHeld ⊢
         refine take_ (i := 0) (N := some 65) (v := ?_) (a' := ?_) #[true, false, false, false, false] rfl rfl (by kernel_rfl) (fun _ _ _ h => h) (Or.inl ⟨by rfl, ?_⟩) hHeld ?_ ?_
         rotate_left
         ·rintro w' ⟨s0, s1, s2, s3⟩
          go_simp
          with_reducible rfl
         rotate_left
         ·simp only [Act.put, List.setIfInBounds_toArray, List.set_cons_zero, List.set_cons_succ, i64_w, i32_w]
          rfl
         refine take_ (i := 1) (N := some 66) (v := ?_) (a' := ?_) #[true, true, false, false, false] rfl rfl (by kernel_rfl) (fun _ _ _ h => h) (Or.inl ⟨by rfl, ?_⟩) hHeld ?_ ?_
         rotate_left
         ·rintro w' ⟨s0, s1, s2, s3⟩
          go_simp
          with_reducible rfl
         rotate_left
         ·simp only [Act.put, List.setIfInBounds_toArray, List.set_cons_zero, List.set_cons_succ, i64_w, i32_w]
          rfl
         refine one_ (i := 2) (N := some 67) #[true, true, true, false, false] rfl rfl (by kernel_rfl) (by decide) (fun K hK => ?_)
         refine goes_ Try.func13 (by kernel_rfl) rfl #[.agg #[.int .i64 a0_0, .slice A0_1 l0_1.length c0_1]] (by rfl) rfl rfl (by (try simp only [List.map_toArray, List.map_cons, List.map_nil]); first | done | rfl | (simp only [List.length_drop, List.length_take]; rfl)) ?_
         with_reducible refine (laws_toNet.calls kj23 a0_0 _ _ l0_1 t248 t249 _ ?side1 ?side2 A55.out).mono ?_
         (case side1 => exact cb HR0_1)
         (case side2 => exact HC0_1.out)
         rintro e w134 ⟨v250, rfl, ho0, hb⟩
         refine ⟨_, rfl, ?_⟩
         have n0_ := rB HO_8 hb
         have n1_ := rB HO_11 hb
         have n2_ := rB HO_12 hb
         have n3_ := rB HO_13 hb
         have n4_ := Aside0.mk (Kd.R_elder' (rk HO_237001) (Kd.R_base ho0) hb)
         have n5_ := Aside0.mk (Kd.R_lower (Kd.R_new' ho0 (Kd.R_lt (rk HO_237001))) (below_size bw))
         have n6_ := bkB BK215 hb
         have n7_ := bkB BK236 hb
         have n8_ := Aside0.mk (below_step bw hb)
         clear HO_8
         clear HO_11
         clear HO_12
         clear HO_13
         clear HO_237001
         clear BK215
         clear BK236
         clear HB
         have HO_8 := n0_
         have HO_11 := n1_
         have HO_12 := n2_
         have HO_13 := n3_
         have HO_237001 := n4_
         have HO251 := n5_
         have BK215 := n6_
         have BK236 := n7_
         have HB := n8_
         clear n0_ n1_ n2_ n3_ n4_ n5_ n6_ n7_ n8_
         (try clear hb)
         (try clear hb2)
         (try clear hk)
         (try clear hi)
         (try clear ho0)
         obtain ⟨Ao135, co135, eo135⟩ := Kd.R_slice HO251.out
         (first | subst eo135 | (injection eo135 with f1_ f2_ f3_; have f4_ := f1_.symm; have f5_ := f3_.symm; clear f1_ f2_ f3_; subst f4_; subst f5_))
         refine hK.out _ _ ⟨(blk_cell BK236.out 0).trans rfl, (blk_cell BK236.out 1).trans rfl, (blk_cell BK215.out 0).trans rfl, (blk_cell BK215.out 1).trans rfl⟩ (fun hHeld => ?_)
         clear hK K
         refine norm_ (a' := ?_) ?_ ?_
         rotate_left
         ·show Act.put _ (some 67) _ = _
          simp only [Act.put, List.setIfInBounds_toArray, List.set_cons_zero, List.set_cons_succ, i64_w, i32_w]
          rfl
         refine one_ (i := 3) (N := some 68) #[true, true, true, true, false] rfl rfl (by kernel_rfl) (by decide) (fun K hK => ?_)
         refine goes_ Try.func19 (by kernel_rfl) rfl #[.agg #[.int .i64 t232, .slice Ao41 t233.length co41], .agg #[.int .i64 t248, .slice Ao135 t249.length co135]] (by rfl) rfl rfl (by (try simp only [List.map_toArray, List.map_cons, List.map_nil]); first | done | rfl | (simp only [List.length_drop, List.length_take]; rfl)) ?_
         with_reducible refine (laws_eqNet.calls kj23 t232 _ _ t233 t248 _ _ t249 true _ ?side1 ?side2 ?side3 ?side4 A56.out).mono ?_
         (case side1 => repeat (first | exact (Kd.R_reads' HO_237001.out).2.2 | (with_reducible refine Kd.C_alloc ?_ _) | (with_reducible refine Kd.C_drewN ?_ _) | (with_reducible refine Kd.C_drew ?_)))
         (case side2 => exact (Kd.R_reads' HO_237001.out).2.1)
         (case side3 => repeat (first | exact (Kd.R_reads' HO251.out).2.2 | (with_reducible refine Kd.C_alloc ?_ _) | (with_reducible refine Kd.C_drewN ?_ _) | (with_reducible refine Kd.C_drew ?_)))
         (case side4 => exact (Kd.R_reads' HO251.out).2.1)
         rintro e w136 ⟨rfl, hb⟩
         refine ⟨_, rfl, ?_⟩
         have n0_ := rB HO_8 hb
         have n1_ := rB HO_11 hb
         have n2_ := rB HO_12 hb
         have n3_ := rB HO_13 hb
         have n4_ := rB HO_237001 hb
         have n5_ := rB HO251 hb
         have n6_ := bkB BK215 hb
         have n7_ := bkB BK236 hb
         have n8_ := Aside0.mk (below_step bw hb)
         clear HO_8
         clear HO_11
         clear HO_12
         clear HO_13
         clear HO_237001
         clear HO251
         clear BK215
         clear BK236
         clear HB
         have HO_8 := n0_
         have HO_11 := n1_
         have HO_12 := n2_
         have HO_13 := n3_
         have HO_237001 := n4_
         have HO251 := n5_
         have BK215 := n6_
         have BK236 := n7_
         have HB := n8_
         clear n0_ n1_ n2_ n3_ n4_ n5_ n6_ n7_ n8_
         (try clear hb)
         (try clear hb2)
         (try clear hk)
         (try clear hi)
         refine hK.out _ _ ⟨(blk_cell BK236.out 0).trans rfl, (blk_cell BK236.out 1).trans rfl, (blk_cell BK215.out 0).trans rfl, (blk_cell BK215.out 1).trans rfl⟩ (fun hHeld => ?_)
         clear hK K
         refine norm_ (a' := ?_) ?_ ?_
         rotate_left
         ·show Act.put _ (some 68) _ = _
          simp only [Act.put, List.setIfInBounds_toArray, List.set_cons_zero, List.set_cons_succ, i64_w, i32_w]
          rfl
         refine pure_ (i := 4) (N := some 69) (v := ?_) (a' := ?_) #[true, true, true, true, true] rfl rfl (by kernel_rfl) (fun _ _ _ h => h) (Or.inl ⟨by rfl, ?_⟩) ?_ ?_
         rotate_left
         ·intro w'
          go_simp
          with_reducible rfl
         rotate_left
         ·simp only [Act.put, List.setIfInBounds_toArray, List.set_cons_zero, List.set_cons_succ, i64_w, i32_w]
          rfl
         refine done_ (by kernel_rfl) ?_
         try go_wp2_with (first | ((with_reducible refine gate_callee (f := 14) rfl ?_); refine goesL_ (some 72) rfl rfl Try.func14 (by kernel_rfl) rfl #[.slice A1 l1.length c1] rfl (by (try simp only [List.map_toArray, List.map_cons, List.map_nil]); first | done | rfl | (simp only [List.length_drop, List.length_take]; rfl)) ?_; (with_reducible refine (laws_toBoolS.calls kj23 _ _ l1 t253 _ ?side1 ?side2 A58.out).mono ?_); (case side1 => exact cb HR1); (case side2 => exact HC1.out); rintro e w137 ⟨v254, rfl, ho0, hb⟩; refine ⟨_, rfl, ?_⟩; have n0_ := Aside0.mk (Kd.R_elder' (rk HO_8) (Kd.R_base ho0) hb); have n1_ := Aside0.mk (Kd.R_elder' (rk HO_11) (Kd.R_base ho0) hb); have n2_ := rB HO_12 hb; have n3_ := Aside0.mk (Kd.R_elder' (rk HO_13) (Kd.R_base ho0) hb); have n4_ := rB HO_237001 hb; have n5_ := rB HO251 hb; have n6_ := Aside0.mk (Kd.R_lower (Kd.R_new' (Kd.R_new' (Kd.R_new' ho0 (Kd.R_lt (rk HO_8))) (Kd.R_lt (rk HO_11))) (Kd.R_lt (rk HO_13))) (below_size bw)); have n7_ := bkB BK215 hb; have n8_ := bkB BK236 hb; have n9_ := Aside0.mk (below_step bw hb); clear HO_8 HO_11 HO_12 HO_13 HO_237001 HO251 BK215 BK236 HB; have HO_8 := n0_; have HO_11 := n1_; have HO_12 := n2_; have HO_13 := n3_; have HO_237001 := n4_; have HO251 := n5_; have HO255 := n6_; have BK215 := n7_; have BK236 := n8_; have HB := n9_; clear n0_ n1_ n2_ n3_ n4_ n5_ n6_ n7_ n8_ n9_; (try clear hb); (try clear hb2); (try clear hk); (try clear hi); (try clear ho0); obtain ⟨Ao138, co138, eo138⟩ := Kd.R_slice HO255.out; subst eo138) | ((with_reducible refine gate_callee (f := 20) rfl ?_); refine goesL_ (some 73) rfl rfl Try.func20 (by kernel_rfl) rfl #[.slice Ao45 t237.length co45, .slice Ao138 t253.length co138] rfl (by (try simp only [List.map_toArray, List.map_cons, List.map_nil]); first | done | rfl | (simp only [List.length_drop, List.length_take]; rfl)) ?_; (with_reducible refine (laws_eqBoolS.calls kj23 _ _ t237 _ _ t253 false _ ?side1 ?side2 ?side3 ?side4 A59.out).mono ?_); (case side1 => repeat (first | exact (Kd.R_reads' HO_11.out).2.2 | (with_reducible refine Kd.C_alloc ?_ _) | (with_reducible refine Kd.C_drewN ?_ _) | (with_reducible refine Kd.C_drew ?_))); (case side2 => exact (Kd.R_reads' HO_11.out).2.1); (case side3 => repeat (first | exact (Kd.R_reads' HO255.out).2.2 | (with_reducible refine Kd.C_alloc ?_ _) | (with_reducible refine Kd.C_drewN ?_ _) | (with_reducible refine Kd.C_drew ?_))); (case side4 => exact (Kd.R_reads' HO255.out).2.1); rintro e w' ⟨rfl, ⟨nd, rfl⟩⟩; refine ⟨_, rfl, ?_⟩))
         go_ret
         exact ⟨by first | rfl | (simp [errW_none, errW_some] <;> rfl) | (simp [*, errW_none, errW_some] <;> rfl), bw⟩
       ·replace c57 := Bool.eq_false_iff.mpr c57
        subst c57
        have H1 : (some false) = some r := by rw [if_neg (show ¬ (false = true) by decide)] at H; exact H
        clear H
        have H := H1
        clear H1
        obtain rfl := Option.some.inj H
        try go_wp2
        have n0_ := Aside0.mk (Kd.R_drew HO_8.out)
        have n1_ := Aside0.mk (Kd.R_drew HO_11.out)
        have n2_ := Aside0.mk (Kd.R_drew HO_12.out)
        have n3_ := Aside0.mk (Kd.R_drew HO_13.out)
        have n4_ := Aside0.mk (Kd.R_drew HO_237001.out)
        have n5_ := Aside0.mk (blk_drew BK215.out)
        have n6_ := Aside0.mk (blk_drew BK236.out)
        have n7_ := Aside0.mk (below_drew1 HB.out)
        clear HO_8
        clear HO_11
        clear HO_12
        clear HO_13
        clear HO_237001
        clear BK215
        clear BK236
        clear HB
        have HO_8 := n0_
        have HO_11 := n1_
        have HO_12 := n2_
        have HO_13 := n3_
        have HO_237001 := n4_
        have BK215 := n5_
        have BK236 := n6_
        have HB := n7_
        clear n0_ n1_ n2_ n3_ n4_ n5_ n6_ n7_
        refine start_ (n := 5) (S := fun w' => w'.cell? ⟨gb236, 0, none⟩ = some (.int .i64 t232) ∧ w'.cell? ⟨gb236, 1, none⟩ = some (.slice Ao41 t233.length co41) ∧ w'.cell? ⟨gb215, 0, none⟩ = some (.int .i64 a0_0) ∧ w'.cell? ⟨gb215, 1, none⟩ = some (.slice A0_1 l0_1.length c0_1)) (ds := []) #[false, false, false, false, false] (by kernel_rfl) rfl rfl ⟨(blk_cell BK236.out 0).trans rfl, (blk_cell BK236.out 1).trans rfl, (blk_cell BK215.out 0).trans rfl, (blk_cell BK215.out 1).trans rfl⟩ (fun hHeld => ?_)
        generalize wc.drew = w139 at HO_8 HO_11 HO_12 HO_13 HO_237001 BK215 BK236 HB hHeld ⊢
        refine take_ (i := 0) (N := some 65) (v := ?_) (a' := ?_) #[true, false, false, false, false] rfl rfl (by kernel_rfl) (fun _ _ _ h => h) (Or.inl ⟨by rfl, ?_⟩) hHeld ?_ ?_
        rotate_left
        ·rintro w' ⟨s0, s1, s2, s3⟩
         go_simp
         with_reducible rfl
        rotate_left
        ·simp only [Act.put, List.setIfInBounds_toArray, List.set_cons_zero, List.set_cons_succ, i64_w, i32_w]
         rfl
        refine take_ (i := 1) (N := some 66) (v := ?_) (a' := ?_) #[true, true, false, false, false] rfl rfl (by kernel_rfl) (fun _ _ _ h => h) (Or.inl ⟨by rfl, ?_⟩) hHeld ?_ ?_
        rotate_left
        ·rintro w' ⟨s0, s1, s2, s3⟩
         go_simp
         with_reducible rfl
        rotate_left
        ·simp only [Act.put, List.setIfInBounds_toArray, List.set_cons_zero, List.set_cons_succ, i64_w, i32_w]
         rfl
        refine one_ (i := 2) (N := some 67) #[true, true, true, false, false] rfl rfl (by kernel_rfl) (by decide) (fun K hK => ?_)
        refine goes_ Try.func13 (by kernel_rfl) rfl #[.agg #[.int .i64 a0_0, .slice A0_1 l0_1.length c0_1]] (by rfl) rfl rfl (by (try simp only [List.map_toArray, List.map_cons, List.map_nil]); first | done | rfl | (simp only [List.length_drop, List.length_take]; rfl)) ?_
        with_reducible refine (laws_toNet.calls kj23 a0_0 _ _ l0_1 t248 t249 _ ?side1 ?side2 A55.out).mono ?_
        (case side1 => exact cb HR0_1)
        (case side2 => exact HC0_1.out)
        rintro e w140 ⟨v250, rfl, ho0, hb⟩
        refine ⟨_, rfl, ?_⟩
        have n0_ := rB HO_8 hb
        have n1_ := rB HO_11 hb
        have n2_ := rB HO_12 hb
        have n3_ := rB HO_13 hb
        have n4_ := Aside0.mk (Kd.R_elder' (rk HO_237001) (Kd.R_base ho0) hb)
        have n5_ := Aside0.mk (Kd.R_lower (Kd.R_new' ho0 (Kd.R_lt (rk HO_237001))) (below_size bw))
        have n6_ := bkB BK215 hb
        have n7_ := bkB BK236 hb
        have n8_ := Aside0.mk (below_step bw hb)
        clear HO_8
        clear HO_11
        clear HO_12
        clear HO_13
        clear HO_237001
        clear BK215
        clear BK236
        clear HB
        have HO_8 := n0_
        have HO_11 := n1_
        have HO_12 := n2_
        have HO_13 := n3_
        have HO_237001 := n4_
        have HO251 := n5_
        have BK215 := n6_
        have BK236 := n7_
        have HB := n8_
        clear n0_ n1_ n2_ n3_ n4_ n5_ n6_ n7_ n8_
        (try clear hb)
        (try clear hb2)
        (try clear hk)
        (try clear hi)
        (try clear ho0)
        obtain ⟨Ao141, co141, eo141⟩ := Kd.R_slice HO251.out
        (first | subst eo141 | (injection eo141 with f1_ f2_ f3_; have f4_ := f1_.symm; have f5_ := f3_.symm; clear f1_ f2_ f3_; subst f4_; subst f5_))
        refine hK.out _ _ ⟨(blk_cell BK236.out 0).trans rfl, (blk_cell BK236.out 1).trans rfl, (blk_cell BK215.out 0).trans rfl, (blk_cell BK215.out 1).trans rfl⟩ (fun hHeld => ?_)
        clear hK K
        refine norm_ (a' := ?_) ?_ ?_
        rotate_left
        ·show Act.put _ (some 67) _ = _
         simp only [Act.put, List.setIfInBounds_toArray, List.set_cons_zero, List.set_cons_succ, i64_w, i32_w]
         rfl
        refine one_ (i := 3) (N := some 68) #[true, true, true, true, false] rfl rfl (by kernel_rfl) (by decide) (fun K hK => ?_)
        refine goes_ Try.func19 (by kernel_rfl) rfl #[.agg #[.int .i64 t232, .slice Ao41 t233.length co41], .agg #[.int .i64 t248, .slice Ao141 t249.length co141]] (by rfl) rfl rfl (by (try simp only [List.map_toArray, List.map_cons, List.map_nil]); first | done | rfl | (simp only [List.length_drop, List.length_take]; rfl)) ?_
        with_reducible refine (laws_eqNet.calls kj23 t232 _ _ t233 t248 _ _ t249 false _ ?side1 ?side2 ?side3 ?side4 A56.out).mono ?_
        (case side1 => repeat (first | exact (Kd.R_reads' HO_237001.out).2.2 | (with_reducible refine Kd.C_alloc ?_ _) | (with_reducible refine Kd.C_drewN ?_ _) | (with_reducible refine Kd.C_drew ?_)))
        (case side2 => exact (Kd.R_reads' HO_237001.out).2.1)
        (case side3 => repeat (first | exact (Kd.R_reads' HO251.out).2.2 | (with_reducible refine Kd.C_alloc ?_ _) | (with_reducible refine Kd.C_drewN ?_ _) | (with_reducible refine Kd.C_drew ?_)))
        (case side4 => exact (Kd.R_reads' HO251.out).2.1)
        rintro e w142 ⟨rfl, hb⟩
        refine ⟨_, rfl, ?_⟩
        have n0_ := rB HO_8 hb
        have n1_ := rB HO_11 hb
        have n2_ := rB HO_12 hb
        have n3_ := rB HO_13 hb
        have n4_ := rB HO_237001 hb
        have n5_ := rB HO251 hb
        have n6_ := bkB BK215 hb
        have n7_ := bkB BK236 hb
        have n8_ := Aside0.mk (below_step bw hb)
        clear HO_8
        clear HO_11
        clear HO_12
        clear HO_13
        clear HO_237001
        clear HO251
        clear BK215
        clear BK236
        clear HB
        have HO_8 := n0_
        have HO_11 := n1_
        have HO_12 := n2_
        have HO_13 := n3_
        have HO_237001 := n4_
        have HO251 := n5_
        have BK215 := n6_
        have BK236 := n7_
        have HB := n8_
        clear n0_ n1_ n2_ n3_ n4_ n5_ n6_ n7_ n8_
        (try clear hb)
        (try clear hb2)
        (try clear hk)
        (try clear hi)
        refine hK.out _ _ ⟨(blk_cell BK236.out 0).trans rfl, (blk_cell BK236.out 1).trans rfl, (blk_cell BK215.out 0).trans rfl, (blk_cell BK215.out 1).trans rfl⟩ (fun hHeld => ?_)
        clear hK K
        refine norm_ (a' := ?_) ?_ ?_
        rotate_left
        ·show Act.put _ (some 68) _ = _
         simp only [Act.put, List.setIfInBounds_toArray, List.set_cons_zero, List.set_cons_succ, i64_w, i32_w]
         rfl
        refine pure_ (i := 4) (N := some 69) (v := ?_) (a' := ?_) #[true, true, true, true, true] rfl rfl (by kernel_rfl) (fun _ _ _ h => h) (Or.inl ⟨by rfl, ?_⟩) ?_ ?_
        rotate_left
        ·intro w'
         go_simp
         with_reducible rfl
        rotate_left
        ·simp only [Act.put, List.setIfInBounds_toArray, List.set_cons_zero, List.set_cons_succ, i64_w, i32_w]
         rfl
        refine done_ (by kernel_rfl) ?_
        try go_wp2
        go_ret
        exact ⟨by first | rfl | (simp [errW_none, errW_some] <;> rfl) | (simp [*, errW_none, errW_some] <;> rfl), bw⟩

end Go.Proofs.Ytgoiihfojhpcmaa.R
