-- Printed by wip/gen.py of this session's repo, over the kit's print.py. Not trusted: Lean checks it.
import Derived.Test.YtgoiihfojhpcmaaGx0
import Derived.Test.YtgoiihfojhpcmaaSq
import Derived.Test.YtgoiihfojhpcmaaGx5
import Derived.Test.YtgoiihfojhpcmaaGx6
import Derived.Test.YtgoiihfojhpcmaaGx7
import Derived.Test.YtgoiihfojhpcmaaGx8
import Derived.Test.YtgoiihfojhpcmaaGx9
namespace Go.Proofs.Ytgoiihfojhpcmaa.G
open Go.RowKit Go.Proofs.YtgoiihfojhpcmaaW.PrintWords Go.Proofs.YtgoiihfojhpcmaaW.PrintLast Go.Proofs.YtgoiihfojhpcmaaW.PrintMore Go.Proofs.Ytgoiihfojhpcmaa.Sq
attribute [local go_sem] max2_int min2_int max_two min_two max_three min_three max_four min_four   -- for this text's walks alone
set_option linter.unusedVariables false
set_option linter.unusedSimpArgs false

/-! ### laws_FnExactWorkValid: function 6 -/
def laws_FnExactWorkValid.f (k : Nat) (l0_0 : List Bool) (l0_1 : List Bool) (l0_2 : List (S147)) : Option (Bool) := (laws_szWork.f l0_0 l0_1 l0_2 1048576).bind fun t252 => (if t252 < 0 then (some true) else ((laws_toWork.f k l0_0 l0_1 l0_2).bind fun bt253 => ((spec_WorkValid.f k bt253.1 bt253.2.1 bt253.2.2).bind fun t262 => ((laws_toWork.f k l0_0 l0_1 l0_2).bind fun bt263 => ((impl_WorkValid.f k bt263.1 bt263.2.1 bt263.2.2).bind fun t273 => (if (t273 != t262) = true then (some false) else ((laws_toWork.f k l0_0 l0_1 l0_2).bind fun bt274 => ((laws_eqWork.f k bt263.1 bt263.2.1 bt263.2.2 bt274.1 bt274.2.1 bt274.2.2).bind fun t283 => (if t283 = true then (some true) else (some false))))))))))
theorem laws_FnExactWorkValid.mono : ∀ a0 a1 a2 k, LeO (laws_FnExactWorkValid.f k a0 a1 a2) (laws_FnExactWorkValid.f (k + 1) a0 a1 a2) := by
 intro a0 a1 a2 k
 unfold laws_FnExactWorkValid.f
 repeat' first
   | (with_reducible exact impl_WorkValid.mono _ _ _ _)
   | (with_reducible exact laws_eqWork.mono _ _ _ _ _ _ _)
   | (with_reducible exact laws_toWork.mono _ _ _ _)
   | (with_reducible exact spec_WorkValid.mono _ _ _ _)
   | (with_reducible exact LeO.refl _)
   | (with_reducible exact LeO.none _)
   | (with_reducible refine LeO.ite ?_ ?_)
   | (with_reducible refine LeO.bind ?_ (fun _ => ?_))
   | exact impl_WorkValid.mono _ _ _ _
   | exact laws_eqWork.mono _ _ _ _ _ _ _
   | exact laws_toWork.mono _ _ _ _
   | exact spec_WorkValid.mono _ _ _ _
   | exact LeO.none _
   | refine LeO.ite ?_ ?_
   | refine LeO.bind ?_ (fun _ => ?_)
set_option maxHeartbeats 8000000 in
set_option maxRecDepth 100000 in
theorem laws_FnExactWorkValid.calls (k : Nat) (A0_0 : Option Addr) (c0_0 : Nat) (l0_0 : List Bool) (A0_1 : Option Addr) (c0_1 : Nat) (l0_1 : List Bool) (A0_2 : Option Addr) (c0_2 : Nat) (l0_2 : List (S147)) (r : Bool) (w : World) (hr0_0 : Kd.C Kd.bool w A0_0 l0_0.length l0_0) (hc0_0 : l0_0.length ≤ c0_0) (hr0_1 : Kd.C Kd.bool w A0_1 l0_1.length l0_1) (hc0_1 : l0_1.length ≤ c0_1) (hr0_2 : Kd.C k147 w A0_2 l0_2.length l0_2) (hc0_2 : l0_2.length ≤ c0_2) (h : laws_FnExactWorkValid.f k l0_0 l0_1 l0_2 = some r) :
  Calls Try.prog 6 #[.agg #[.slice A0_0 l0_0.length c0_0, .slice A0_1 l0_1.length c0_1, .slice A0_2 l0_2.length c0_2]] w fun e w' => e = .returned (.bool r) ∧ Below w.heap.size w w' := by
 have hu68 := Try.underlying68
 have hu73 := Try.underlying73
 have HR0_0 := Aside0.mk hr0_0
 have HC0_0 := Aside0.mk hc0_0
 clear hr0_0 hc0_0
 have HR0_1 := Aside0.mk hr0_1
 have HC0_1 := Aside0.mk hc0_1
 clear hr0_1 hc0_1
 have HR0_2 := Aside0.mk hr0_2
 have HC0_2 := Aside0.mk hc0_2
 clear hr0_2 hc0_2
 have HB := Aside0.mk (Below.refl w.heap.size w)
 have H : ((laws_szWork.f l0_0 l0_1 l0_2 1048576).bind fun t252 => (if t252 < 0 then (some true) else ((laws_toWork.f k l0_0 l0_1 l0_2).bind fun bt253 => ((spec_WorkValid.f k bt253.1 bt253.2.1 bt253.2.2).bind fun t262 => ((laws_toWork.f k l0_0 l0_1 l0_2).bind fun bt263 => ((impl_WorkValid.f k bt263.1 bt263.2.1 bt263.2.2).bind fun t273 => (if (t273 != t262) = true then (some false) else ((laws_toWork.f k l0_0 l0_1 l0_2).bind fun bt274 => ((laws_eqWork.f k bt263.1 bt263.2.1 bt263.2.2 bt274.1 bt274.2.1 bt274.2.2).bind fun t283 => (if t283 = true then (some true) else (some false))))))))))) = some r := h
 clear h
 replace H := Option.bind_eq_some_iff.mp H
 obtain ⟨t252, A20, H⟩ := H
 replace H : (if t252 < 0 then (some true) else ((laws_toWork.f k l0_0 l0_1 l0_2).bind fun bt253 => ((spec_WorkValid.f k bt253.1 bt253.2.1 bt253.2.2).bind fun t262 => ((laws_toWork.f k l0_0 l0_1 l0_2).bind fun bt263 => ((impl_WorkValid.f k bt263.1 bt263.2.1 bt263.2.2).bind fun t273 => (if (t273 != t262) = true then (some false) else ((laws_toWork.f k l0_0 l0_1 l0_2).bind fun bt274 => ((laws_eqWork.f k bt263.1 bt263.2.1 bt263.2.2 bt274.1 bt274.2.1 bt274.2.2).bind fun t283 => (if t283 = true then (some true) else (some false)))))))))) = some r := H
 have A2 := Aside0.mk A20
 clear A20
 by_cases c3 : t252 < 0
 ·rw [if_pos c3] at H
  have c3b0 : decide (t252 < 0) = true := decide_eq_true c3
  clear c3
  obtain rfl := Option.some.inj H
  go_enter Try.func6, Try.ntmps6
  go_wp2_with (first | ((with_reducible refine gate_dst (N := 1) rfl ?_); refine box_event ?hg (N := 1) ?hd (cs := #[.slice A0_0 l0_0.length c0_0, .slice A0_1 l0_1.length c0_1, .slice A0_2 l0_2.length c0_2]) (t := 68) ?hr ?_; (case hd => rfl); (case hg => rfl); (case hr => first | (go_simp; done) | (go_simp; rfl)); intro gb251 hg w4 hbox hb; have n0_ := Aside0.mk (below_step bw hb); have n1_ := Aside0.mk (hbox); have n2_ := Aside0.mk ((by rw [hg]; exact (below_size bw) : w.heap.size ≤ gb251)); have n3_ := Aside0.mk ((by rw [hg]; exact (below_size bw) : w.heap.size ≤ gb251)); clear HB; have HB := n0_; have BK251 := n1_; have GW251 := n2_; have GE251 := n3_; clear n0_ n1_ n2_ n3_; clear hb hbox hg; have hcz5_0 : w4.cell? ⟨gb251, 0, none⟩ = some (.slice A0_0 l0_0.length c0_0) := (blk_cell BK251.out 0).trans rfl; have hcz5_1 : w4.cell? ⟨gb251, 1, none⟩ = some (.slice A0_1 l0_1.length c0_1) := (blk_cell BK251.out 1).trans rfl; have hcz5_2 : w4.cell? ⟨gb251, 2, none⟩ = some (.slice A0_2 l0_2.length c0_2) := (blk_cell BK251.out 2).trans rfl; have hfz5_0 := blk_frozen BK251.out 0; have hfz5_1 := blk_frozen BK251.out 1; have hfz5_2 := blk_frozen BK251.out 2) | ((with_reducible refine gate_callee (f := 38) rfl ?_); refine goesL_ (some 9) rfl rfl Try.func38 (by kernel_rfl) rfl #[.agg #[.slice A0_0 l0_0.length c0_0, .slice A0_1 l0_1.length c0_1, .slice A0_2 l0_2.length c0_2], .int .i64 1048576] rfl (by (try simp only [List.map_toArray, List.map_cons, List.map_nil]); first | done | rfl | (simp only [List.length_drop, List.length_take]; rfl)) ?_; (with_reducible refine (laws_szWork.calls _ _ l0_0 _ _ l0_1 _ _ l0_2 1048576 t252 _ ?side1 ?side2 ?side3 ?side4 ?side5 ?side6 A2.out).mono ?_); (case side1 => exact cb HR0_0); (case side2 => exact HC0_0.out); (case side3 => exact cb HR0_1); (case side4 => exact HC0_1.out); (case side5 => exact cb HR0_2); (case side6 => exact HC0_2.out); rintro e w6 ⟨rfl, hb⟩; refine ⟨_, rfl, ?_⟩; have n0_ := bkB BK251 hb; have n1_ := Aside0.mk (below_step bw hb); clear BK251 HB; have BK251 := n0_; have HB := n1_; clear n0_ n1_; (try clear hb); (try clear hb2); (try clear hk); (try clear hi)))
  go_ret
  exact ⟨by first | rfl | (simp [errW_none, errW_some] <;> rfl) | (simp [*, errW_none, errW_some] <;> rfl), bw⟩
 ·rw [if_neg c3] at H
  have c3b0 : decide (t252 < 0) = false := decide_eq_false c3
  clear c3
  replace H := Option.bind_eq_some_iff.mp H
  obtain ⟨⟨t253, t256, t259⟩, A70, H⟩ := H
  replace H : ((spec_WorkValid.f k t253 t256 t259).bind fun t262 => ((laws_toWork.f k l0_0 l0_1 l0_2).bind fun bt263 => ((impl_WorkValid.f k bt263.1 bt263.2.1 bt263.2.2).bind fun t273 => (if (t273 != t262) = true then (some false) else ((laws_toWork.f k l0_0 l0_1 l0_2).bind fun bt274 => ((laws_eqWork.f k bt263.1 bt263.2.1 bt263.2.2 bt274.1 bt274.2.1 bt274.2.2).bind fun t283 => (if t283 = true then (some true) else (some false)))))))) = some r := H
  have A7 := Aside0.mk A70
  clear A70
  replace H := Option.bind_eq_some_iff.mp H
  obtain ⟨t262, A80, H⟩ := H
  replace H : ((laws_toWork.f k l0_0 l0_1 l0_2).bind fun bt263 => ((impl_WorkValid.f k bt263.1 bt263.2.1 bt263.2.2).bind fun t273 => (if (t273 != t262) = true then (some false) else ((laws_toWork.f k l0_0 l0_1 l0_2).bind fun bt274 => ((laws_eqWork.f k bt263.1 bt263.2.1 bt263.2.2 bt274.1 bt274.2.1 bt274.2.2).bind fun t283 => (if t283 = true then (some true) else (some false))))))) = some r := H
  have A8 := Aside0.mk A80
  clear A80
  replace H := Option.bind_eq_some_iff.mp H
  obtain ⟨⟨t263, t266, t269⟩, A90, H⟩ := H
  replace H : ((impl_WorkValid.f k t263 t266 t269).bind fun t273 => (if (t273 != t262) = true then (some false) else ((laws_toWork.f k l0_0 l0_1 l0_2).bind fun bt274 => ((laws_eqWork.f k t263 t266 t269 bt274.1 bt274.2.1 bt274.2.2).bind fun t283 => (if t283 = true then (some true) else (some false)))))) = some r := H
  have A9 := Aside0.mk A90
  clear A90
  replace H := Option.bind_eq_some_iff.mp H
  obtain ⟨t273, A100, H⟩ := H
  replace H : (if (t273 != t262) = true then (some false) else ((laws_toWork.f k l0_0 l0_1 l0_2).bind fun bt274 => ((laws_eqWork.f k t263 t266 t269 bt274.1 bt274.2.1 bt274.2.2).bind fun t283 => (if t283 = true then (some true) else (some false))))) = some r := H
  have A10 := Aside0.mk A100
  clear A100
  by_cases c11 : (t273 != t262) = true
  ·rw [if_pos c11] at H
   have c11b0 : (t273 != t262) = true := c11
   (try (have c11b1 : decide (t273 = t262) = false := by simpa using c11))
   (try (have c11b2 : (t273 == t262) = false := by simpa using c11))
   (try (have c11b3 : ¬ (t273 = t262) := by simpa using c11))
   clear c11
   obtain rfl := Option.some.inj H
   go_enter Try.func6, Try.ntmps6
   go_wp2_with (first | ((with_reducible refine gate_dst (N := 1) rfl ?_); refine box_event ?hg (N := 1) ?hd (cs := #[.slice A0_0 l0_0.length c0_0, .slice A0_1 l0_1.length c0_1, .slice A0_2 l0_2.length c0_2]) (t := 68) ?hr ?_; (case hd => rfl); (case hg => rfl); (case hr => first | (go_simp; done) | (go_simp; rfl)); intro gb251 hg w12 hbox hb; have n0_ := Aside0.mk (below_step bw hb); have n1_ := Aside0.mk (hbox); have n2_ := Aside0.mk ((by rw [hg]; exact (below_size bw) : w.heap.size ≤ gb251)); have n3_ := Aside0.mk ((by rw [hg]; exact (below_size bw) : w.heap.size ≤ gb251)); clear HB; have HB := n0_; have BK251 := n1_; have GW251 := n2_; have GE251 := n3_; clear n0_ n1_ n2_ n3_; clear hb hbox hg; have hcz13_0 : w12.cell? ⟨gb251, 0, none⟩ = some (.slice A0_0 l0_0.length c0_0) := (blk_cell BK251.out 0).trans rfl; have hcz13_1 : w12.cell? ⟨gb251, 1, none⟩ = some (.slice A0_1 l0_1.length c0_1) := (blk_cell BK251.out 1).trans rfl; have hcz13_2 : w12.cell? ⟨gb251, 2, none⟩ = some (.slice A0_2 l0_2.length c0_2) := (blk_cell BK251.out 2).trans rfl; have hfz13_0 := blk_frozen BK251.out 0; have hfz13_1 := blk_frozen BK251.out 1; have hfz13_2 := blk_frozen BK251.out 2) | ((with_reducible refine gate_callee (f := 38) rfl ?_); refine goesL_ (some 9) rfl rfl Try.func38 (by kernel_rfl) rfl #[.agg #[.slice A0_0 l0_0.length c0_0, .slice A0_1 l0_1.length c0_1, .slice A0_2 l0_2.length c0_2], .int .i64 1048576] rfl (by (try simp only [List.map_toArray, List.map_cons, List.map_nil]); first | done | rfl | (simp only [List.length_drop, List.length_take]; rfl)) ?_; (with_reducible refine (laws_szWork.calls _ _ l0_0 _ _ l0_1 _ _ l0_2 1048576 t252 _ ?side1 ?side2 ?side3 ?side4 ?side5 ?side6 A2.out).mono ?_); (case side1 => exact cb HR0_0); (case side2 => exact HC0_0.out); (case side3 => exact cb HR0_1); (case side4 => exact HC0_1.out); (case side5 => exact cb HR0_2); (case side6 => exact HC0_2.out); rintro e w14 ⟨rfl, hb⟩; refine ⟨_, rfl, ?_⟩; have n0_ := bkB BK251 hb; have n1_ := Aside0.mk (below_step bw hb); clear BK251 HB; have BK251 := n0_; have HB := n1_; clear n0_ n1_; (try clear hb); (try clear hb2); (try clear hk); (try clear hi); have hcz15_0 : w14.cell? ⟨gb251, 0, none⟩ = some (.slice A0_0 l0_0.length c0_0) := (blk_cell BK251.out 0).trans rfl; have hcz15_1 : w14.cell? ⟨gb251, 1, none⟩ = some (.slice A0_1 l0_1.length c0_1) := (blk_cell BK251.out 1).trans rfl; have hcz15_2 : w14.cell? ⟨gb251, 2, none⟩ = some (.slice A0_2 l0_2.length c0_2) := (blk_cell BK251.out 2).trans rfl; have hfz15_0 := blk_frozen BK251.out 0; have hfz15_1 := blk_frozen BK251.out 1; have hfz15_2 := blk_frozen BK251.out 2) | ((with_reducible refine gate_callee (f := 40) rfl ?_); refine goesL_ (some 13) rfl rfl Try.func40 (by kernel_rfl) rfl #[.agg #[.slice A0_0 l0_0.length c0_0, .slice A0_1 l0_1.length c0_1, .slice A0_2 l0_2.length c0_2]] rfl (by (try simp only [List.map_toArray, List.map_cons, List.map_nil]); first | done | rfl | (simp only [List.length_drop, List.length_take]; rfl)) ?_; (with_reducible refine (laws_toWork.calls k _ _ l0_0 _ _ l0_1 _ _ l0_2 t253 t256 t259 _ ?side1 ?side2 ?side3 ?side4 ?side5 ?side6 A7.out).mono ?_); (case side1 => exact cb HR0_0); (case side2 => exact HC0_0.out); (case side3 => exact cb HR0_1); (case side4 => exact HC0_1.out); (case side5 => exact cb HR0_2); (case side6 => exact HC0_2.out); rintro e w16 ⟨v254, v257, v260, rfl, ho0, ho1, ho2, hb⟩; refine ⟨_, rfl, ?_⟩; have n0_ := Aside0.mk (Kd.R_lower ho0 (below_size bw)); have n1_ := Aside0.mk (Kd.R_lower ho1 (below_size bw)); have n2_ := Aside0.mk (Kd.R_lower ho2 (below_size bw)); have n3_ := bkB BK251 hb; have n4_ := Aside0.mk (below_step bw hb); clear BK251 HB; have HO255 := n0_; have HO258 := n1_; have HO261 := n2_; have BK251 := n3_; have HB := n4_; clear n0_ n1_ n2_ n3_ n4_; (try clear hb); (try clear hb2); (try clear hk); (try clear hi); (try clear ho0); (try clear ho1); (try clear ho2); obtain ⟨Ao17, co17, eo17⟩ := Kd.R_slice HO255.out; subst eo17; obtain ⟨Ao18, co18, eo18⟩ := Kd.R_slice HO258.out; subst eo18; obtain ⟨Ao19, co19, eo19⟩ := Kd.R_slice HO261.out; subst eo19) | ((with_reducible refine gate_callee (f := 39) rfl ?_); refine goesL_ (some 14) rfl rfl Try.func39 (by kernel_rfl) rfl #[.agg #[.slice Ao17 t253.length co17, .slice Ao18 t256.length co18, .slice Ao19 t259.length co19]] rfl (by (try simp only [List.map_toArray, List.map_cons, List.map_nil]); first | done | rfl | (simp only [List.length_drop, List.length_take]; rfl)) ?_; (with_reducible refine (spec_WorkValid.calls k _ _ t253 _ _ t256 _ _ t259 t262 _ ?side1 ?side2 ?side3 ?side4 ?side5 ?side6 A8.out).mono ?_); (case side1 => repeat (first | exact (Kd.R_reads' HO255.out).2.2 | (with_reducible refine Kd.C_alloc ?_ _) | (with_reducible refine Kd.C_drewN ?_ _) | (with_reducible refine Kd.C_drew ?_))); (case side2 => exact (Kd.R_reads' HO255.out).2.1); (case side3 => repeat (first | exact (Kd.R_reads' HO258.out).2.2 | (with_reducible refine Kd.C_alloc ?_ _) | (with_reducible refine Kd.C_drewN ?_ _) | (with_reducible refine Kd.C_drew ?_))); (case side4 => exact (Kd.R_reads' HO258.out).2.1); (case side5 => repeat (first | exact (Kd.R_reads' HO261.out).2.2 | (with_reducible refine Kd.C_alloc ?_ _) | (with_reducible refine Kd.C_drewN ?_ _) | (with_reducible refine Kd.C_drew ?_))); (case side6 => exact (Kd.R_reads' HO261.out).2.1); rintro e w20 ⟨rfl, hb⟩; refine ⟨_, rfl, ?_⟩; have n0_ := rB HO255 hb; have n1_ := rB HO258 hb; have n2_ := rB HO261 hb; have n3_ := bkB BK251 hb; have n4_ := Aside0.mk (below_step bw hb); clear HO255 HO258 HO261 BK251 HB; have HO255 := n0_; have HO258 := n1_; have HO261 := n2_; have BK251 := n3_; have HB := n4_; clear n0_ n1_ n2_ n3_ n4_; (try clear hb); (try clear hb2); (try clear hk); (try clear hi); have hcz21_0 : w20.cell? ⟨gb251, 0, none⟩ = some (.slice A0_0 l0_0.length c0_0) := (blk_cell BK251.out 0).trans rfl; have hcz21_1 : w20.cell? ⟨gb251, 1, none⟩ = some (.slice A0_1 l0_1.length c0_1) := (blk_cell BK251.out 1).trans rfl; have hcz21_2 : w20.cell? ⟨gb251, 2, none⟩ = some (.slice A0_2 l0_2.length c0_2) := (blk_cell BK251.out 2).trans rfl; have hfz21_0 := blk_frozen BK251.out 0; have hfz21_1 := blk_frozen BK251.out 1; have hfz21_2 := blk_frozen BK251.out 2) | ((with_reducible refine gate_callee (f := 40) rfl ?_); refine goesL_ (some 16) rfl rfl Try.func40 (by kernel_rfl) rfl #[.agg #[.slice A0_0 l0_0.length c0_0, .slice A0_1 l0_1.length c0_1, .slice A0_2 l0_2.length c0_2]] rfl (by (try simp only [List.map_toArray, List.map_cons, List.map_nil]); first | done | rfl | (simp only [List.length_drop, List.length_take]; rfl)) ?_; (with_reducible refine (laws_toWork.calls k _ _ l0_0 _ _ l0_1 _ _ l0_2 t263 t266 t269 _ ?side1 ?side2 ?side3 ?side4 ?side5 ?side6 A9.out).mono ?_); (case side1 => exact cb HR0_0); (case side2 => exact HC0_0.out); (case side3 => exact cb HR0_1); (case side4 => exact HC0_1.out); (case side5 => exact cb HR0_2); (case side6 => exact HC0_2.out); rintro e w22 ⟨v264, v267, v270, rfl, ho0, ho1, ho2, hb⟩; refine ⟨_, rfl, ?_⟩; have n0_ := Aside0.mk (Kd.R_mono (Kd.R_told (Kd.R_told (Kd.R_old (rk HO255) hb) (Kd.R_base ho0)) (Kd.R_base ho1)) (fun _ h_ => h_.1)); have n1_ := Aside0.mk (Kd.R_mono (Kd.R_told (Kd.R_told (Kd.R_old (rk HO258) hb) (Kd.R_base ho0)) (Kd.R_base ho1)) (fun _ h_ => h_.1)); have n2_ := Aside0.mk (Kd.R_elder' (rk HO261) (Kd.R_base ho2) hb); have n3_ := Aside0.mk (Kd.R_lower (Kd.R_new' (Kd.R_new' ho0 (Kd.R_lt (rk HO255))) (Kd.R_lt (rk HO258))) (below_size bw)); have n4_ := Aside0.mk (Kd.R_lower (Kd.R_new' (Kd.R_new' ho1 (Kd.R_lt (rk HO255))) (Kd.R_lt (rk HO258))) (below_size bw)); have n5_ := Aside0.mk (Kd.R_lower (Kd.R_new' ho2 (Kd.R_lt (rk HO261))) (below_size bw)); have n6_ := bkB BK251 hb; have n7_ := Aside0.mk (below_step bw hb); clear HO255 HO258 HO261 BK251 HB; have HO255 := n0_; have HO258 := n1_; have HO261 := n2_; have HO265 := n3_; have HO268 := n4_; have HO271 := n5_; have BK251 := n6_; have HB := n7_; clear n0_ n1_ n2_ n3_ n4_ n5_ n6_ n7_; (try clear hb); (try clear hb2); (try clear hk); (try clear hi); (try clear ho0); (try clear ho1); (try clear ho2)) | ((with_reducible refine gate_dst (N := 5) rfl ?_); refine box_event ?hg (N := 5) ?hd (cs := #[.slice none 0 0, .slice none 0 0, .slice none 0 0]) (t := 73) ?hr ?_; (case hd => rfl); (case hg => rfl); (case hr => first | (go_simp; done) | (go_simp; rfl)); intro gb272 hg w23 hbox hb; have n0_ := rB HO255 hb; have n1_ := rB HO258 hb; have n2_ := rB HO261 hb; have n3_ := rB HO265 hb; have n4_ := rB HO268 hb; have n5_ := rB HO271 hb; have n6_ := bkB BK251 hb; have n7_ := Aside0.mk (below_step bw hb); have n8_ := Aside0.mk (hbox); have n9_ := Aside0.mk ((by rw [hg]; exact (below_size bw) : w.heap.size ≤ gb272)); have n10_ := Aside0.mk ((by rw [hg]; exact (below_size bw) : w.heap.size ≤ gb272)); have n11_ := Aside0.mk ((by rw [hg]; exact Nat.ne_of_lt (blk_lt (g := gb251) (o := .cells #[.slice A0_0 l0_0.length c0_0, .slice A0_1 l0_1.length c0_1, .slice A0_2 l0_2.length c0_2] 68 (0, 0)) (bk BK251)) : gb251 ≠ gb272)); have n12_ := Aside0.mk ((by rw [hg]; exact Nat.ne_of_gt (blk_lt (g := gb251) (o := .cells #[.slice A0_0 l0_0.length c0_0, .slice A0_1 l0_1.length c0_1, .slice A0_2 l0_2.length c0_2] 68 (0, 0)) (bk BK251)) : gb272 ≠ gb251)); clear HO255 HO258 HO261 HO265 HO268 HO271 BK251 HB; have HO255 := n0_; have HO258 := n1_; have HO261 := n2_; have HO265 := n3_; have HO268 := n4_; have HO271 := n5_; have BK251 := n6_; have HB := n7_; have BK272 := n8_; have GW272 := n9_; have GE272 := n10_; have NB251_272 := n11_; have NB272_251 := n12_; clear n0_ n1_ n2_ n3_ n4_ n5_ n6_ n7_ n8_ n9_ n10_ n11_ n12_; clear hb hbox hg; obtain ⟨Ao24, co24, eo24⟩ := Kd.R_slice HO265.out; subst eo24; have hnb25 := NB272_251.out; have hnc25 := NB251_272.out; have hcz26_0 : w23.cell? ⟨gb272, 0, none⟩ = some (.slice none 0 0) := (blk_cell BK272.out 0).trans rfl; have hcz26_1 : w23.cell? ⟨gb272, 1, none⟩ = some (.slice none 0 0) := (blk_cell BK272.out 1).trans rfl; have hcz26_2 : w23.cell? ⟨gb272, 2, none⟩ = some (.slice none 0 0) := (blk_cell BK272.out 2).trans rfl; have hfz26_0 := blk_frozen BK272.out 0; have hfz26_1 := blk_frozen BK272.out 1; have hfz26_2 := blk_frozen BK272.out 2; obtain ⟨Ao27, co27, eo27⟩ := Kd.R_slice HO268.out; subst eo27; obtain ⟨Ao28, co28, eo28⟩ := Kd.R_slice HO271.out; subst eo28) | ((with_reducible refine gate_callee (f := 41) rfl ?_); refine goesL_ (some 18) rfl rfl Try.func41 (by kernel_rfl) rfl #[.agg #[.slice Ao24 t263.length co24, .slice Ao27 t266.length co27, .slice Ao28 t269.length co28]] rfl (by (try simp only [List.map_toArray, List.map_cons, List.map_nil]); first | done | rfl | (simp only [List.length_drop, List.length_take]; rfl)) ?_; (with_reducible refine (impl_WorkValid.calls k _ _ t263 _ _ t266 _ _ t269 t273 _ ?side1 ?side2 ?side3 ?side4 ?side5 ?side6 A10.out).mono ?_); (case side1 => refine (Kd.R_reads' (e := 4) (base := w.heap.size) (ok := fun k_ => ((some k_ ≠ (.slice Ao27 t266.length co27 : Value).ownBlock ∧ some k_ ≠ (.slice Ao17 t253.length co17 : Value).ownBlock) ∧ some k_ ≠ (.slice Ao18 t256.length co18 : Value).ownBlock)) (n := t263.length) (c := co24) ?_).2.2; exact (by (with_reducible repeat (first | apply Kd.R_alloc | apply Kd.R_drewN | apply Kd.R_drew)); exact (Kd.R_mono (Kd.R_far (p := ⟨gb272, 2, none⟩) (Kd.R_far (p := ⟨gb272, 1, none⟩) (Kd.R_far (p := ⟨gb272, 0, none⟩) (Kd.R_types HO265.out BK272.out (by decide)) (fun _ hk => by first | exact hk.2 | grind) (.slice Ao24 t263.length co24)) (fun _ hk => by first | exact hk.2 | grind) (.slice Ao27 t266.length co27)) (fun _ hk => by first | exact hk.2 | grind) (.slice Ao28 t269.length co28)) (fun _ h_ => h_.1)))); (case side2 => exact (Kd.R_reads' HO265.out).2.1); (case side3 => refine (Kd.R_reads' (e := 4) (base := w.heap.size) (ok := fun k_ => ((some k_ ≠ (.slice Ao24 t263.length co24 : Value).ownBlock ∧ some k_ ≠ (.slice Ao17 t253.length co17 : Value).ownBlock) ∧ some k_ ≠ (.slice Ao18 t256.length co18 : Value).ownBlock)) (n := t266.length) (c := co27) ?_).2.2; exact (by (with_reducible repeat (first | apply Kd.R_alloc | apply Kd.R_drewN | apply Kd.R_drew)); exact (Kd.R_mono (Kd.R_far (p := ⟨gb272, 2, none⟩) (Kd.R_far (p := ⟨gb272, 1, none⟩) (Kd.R_far (p := ⟨gb272, 0, none⟩) (Kd.R_types HO268.out BK272.out (by decide)) (fun _ hk => by first | exact hk.2 | grind) (.slice Ao24 t263.length co24)) (fun _ hk => by first | exact hk.2 | grind) (.slice Ao27 t266.length co27)) (fun _ hk => by first | exact hk.2 | grind) (.slice Ao28 t269.length co28)) (fun _ h_ => h_.1)))); (case side4 => exact (Kd.R_reads' HO268.out).2.1); (case side5 => refine (Kd.R_reads' (e := 112) (base := w.heap.size) (ok := fun k_ => (True ∧ some k_ ≠ (.slice Ao19 t259.length co19 : Value).ownBlock)) (n := t269.length) (c := co28) ?_).2.2; exact (by (with_reducible repeat (first | apply Kd.R_alloc | apply Kd.R_drewN | apply Kd.R_drew)); exact (Kd.R_mono (Kd.R_far (p := ⟨gb272, 2, none⟩) (Kd.R_far (p := ⟨gb272, 1, none⟩) (Kd.R_far (p := ⟨gb272, 0, none⟩) (Kd.R_types HO271.out BK272.out (by decide)) (fun _ hk => by first | exact hk.2 | grind) (.slice Ao24 t263.length co24)) (fun _ hk => by first | exact hk.2 | grind) (.slice Ao27 t266.length co27)) (fun _ hk => by first | exact hk.2 | grind) (.slice Ao28 t269.length co28)) (fun _ h_ => h_.1)))); (case side6 => exact (Kd.R_reads' HO271.out).2.1); rintro e w29 ⟨rfl, hb⟩; refine ⟨_, rfl, ?_⟩; have n0_ := Aside0.mk (Kd.R_below (by (with_reducible repeat (first | apply Kd.R_alloc | apply Kd.R_drewN | apply Kd.R_drew)); exact (Kd.R_mono (Kd.R_far (p := ⟨gb272, 2, none⟩) (Kd.R_far (p := ⟨gb272, 1, none⟩) (Kd.R_far (p := ⟨gb272, 0, none⟩) (Kd.R_types HO255.out BK272.out (by decide)) (fun _ hk => by first | exact hk.2 | grind) (.slice Ao24 t263.length co24)) (fun _ hk => by first | exact hk.2 | grind) (.slice Ao27 t266.length co27)) (fun _ hk => by first | exact hk.2 | grind) (.slice Ao28 t269.length co28)) (fun _ h_ => h_.1))) hb); have n1_ := Aside0.mk (Kd.R_below (by (with_reducible repeat (first | apply Kd.R_alloc | apply Kd.R_drewN | apply Kd.R_drew)); exact (Kd.R_mono (Kd.R_far (p := ⟨gb272, 2, none⟩) (Kd.R_far (p := ⟨gb272, 1, none⟩) (Kd.R_far (p := ⟨gb272, 0, none⟩) (Kd.R_types HO258.out BK272.out (by decide)) (fun _ hk => by first | exact hk.2 | grind) (.slice Ao24 t263.length co24)) (fun _ hk => by first | exact hk.2 | grind) (.slice Ao27 t266.length co27)) (fun _ hk => by first | exact hk.2 | grind) (.slice Ao28 t269.length co28)) (fun _ h_ => h_.1))) hb); have n2_ := Aside0.mk (Kd.R_below (by (with_reducible repeat (first | apply Kd.R_alloc | apply Kd.R_drewN | apply Kd.R_drew)); exact (Kd.R_mono (Kd.R_far (p := ⟨gb272, 2, none⟩) (Kd.R_far (p := ⟨gb272, 1, none⟩) (Kd.R_far (p := ⟨gb272, 0, none⟩) (Kd.R_types HO261.out BK272.out (by decide)) (fun _ hk => by first | exact hk.2 | grind) (.slice Ao24 t263.length co24)) (fun _ hk => by first | exact hk.2 | grind) (.slice Ao27 t266.length co27)) (fun _ hk => by first | exact hk.2 | grind) (.slice Ao28 t269.length co28)) (fun _ h_ => h_.1))) hb); have n3_ := Aside0.mk (Kd.R_below (by (with_reducible repeat (first | apply Kd.R_alloc | apply Kd.R_drewN | apply Kd.R_drew)); exact (Kd.R_mono (Kd.R_far (p := ⟨gb272, 2, none⟩) (Kd.R_far (p := ⟨gb272, 1, none⟩) (Kd.R_far (p := ⟨gb272, 0, none⟩) (Kd.R_types HO265.out BK272.out (by decide)) (fun _ hk => by first | exact hk.2 | grind) (.slice Ao24 t263.length co24)) (fun _ hk => by first | exact hk.2 | grind) (.slice Ao27 t266.length co27)) (fun _ hk => by first | exact hk.2 | grind) (.slice Ao28 t269.length co28)) (fun _ h_ => h_.1))) hb); have n4_ := Aside0.mk (Kd.R_below (by (with_reducible repeat (first | apply Kd.R_alloc | apply Kd.R_drewN | apply Kd.R_drew)); exact (Kd.R_mono (Kd.R_far (p := ⟨gb272, 2, none⟩) (Kd.R_far (p := ⟨gb272, 1, none⟩) (Kd.R_far (p := ⟨gb272, 0, none⟩) (Kd.R_types HO268.out BK272.out (by decide)) (fun _ hk => by first | exact hk.2 | grind) (.slice Ao24 t263.length co24)) (fun _ hk => by first | exact hk.2 | grind) (.slice Ao27 t266.length co27)) (fun _ hk => by first | exact hk.2 | grind) (.slice Ao28 t269.length co28)) (fun _ h_ => h_.1))) hb); have n5_ := Aside0.mk (Kd.R_below (by (with_reducible repeat (first | apply Kd.R_alloc | apply Kd.R_drewN | apply Kd.R_drew)); exact (Kd.R_mono (Kd.R_far (p := ⟨gb272, 2, none⟩) (Kd.R_far (p := ⟨gb272, 1, none⟩) (Kd.R_far (p := ⟨gb272, 0, none⟩) (Kd.R_types HO271.out BK272.out (by decide)) (fun _ hk => by first | exact hk.2 | grind) (.slice Ao24 t263.length co24)) (fun _ hk => by first | exact hk.2 | grind) (.slice Ao27 t266.length co27)) (fun _ hk => by first | exact hk.2 | grind) (.slice Ao28 t269.length co28)) (fun _ h_ => h_.1))) hb); have n6_ := Aside0.mk (blk_below (g := gb251) (o := .cells #[.slice A0_0 l0_0.length c0_0, .slice A0_1 l0_1.length c0_1, .slice A0_2 l0_2.length c0_2] 68 (0, 0)) (by (with_reducible repeat (first | refine blk_drewN ?_ _ | refine blk_drew ?_ | refine blk_alloc ?_ _)); refine blk_far ?_ NB251_272.out _; (with_reducible repeat (first | refine blk_drewN ?_ _ | refine blk_drew ?_ | refine blk_alloc ?_ _)); refine blk_far ?_ NB251_272.out _; (with_reducible repeat (first | refine blk_drewN ?_ _ | refine blk_drew ?_ | refine blk_alloc ?_ _)); refine blk_far ?_ NB251_272.out _; (with_reducible repeat (first | refine blk_drewN ?_ _ | refine blk_drew ?_ | refine blk_alloc ?_ _)); exact BK251.out) hb); have n7_ := Aside0.mk (blk_below (g := gb272) (o := .cells #[.slice Ao24 t263.length co24, .slice Ao27 t266.length co27, .slice Ao28 t269.length co28] 73 (0, 0)) (by (with_reducible repeat (first | refine blk_drewN ?_ _ | refine blk_drew ?_ | refine blk_alloc ?_ _)); refine blk_put (cs := #[.slice Ao24 t263.length co24, .slice Ao27 t266.length co27, .slice none 0 0]) ?_ 2 _ rfl; (with_reducible repeat (first | refine blk_drewN ?_ _ | refine blk_drew ?_ | refine blk_alloc ?_ _)); refine blk_put (cs := #[.slice Ao24 t263.length co24, .slice none 0 0, .slice none 0 0]) ?_ 1 _ rfl; (with_reducible repeat (first | refine blk_drewN ?_ _ | refine blk_drew ?_ | refine blk_alloc ?_ _)); refine blk_put (cs := #[.slice none 0 0, .slice none 0 0, .slice none 0 0]) ?_ 0 _ rfl; (with_reducible repeat (first | refine blk_drewN ?_ _ | refine blk_drew ?_ | refine blk_alloc ?_ _)); exact BK272.out) hb); have n8_ := Aside0.mk (below_step bw hb); clear HO255 HO258 HO261 HO265 HO268 HO271 BK251 BK272 HB; have HO255 := n0_; have HO258 := n1_; have HO261 := n2_; have HO265 := n3_; have HO268 := n4_; have HO271 := n5_; have BK251 := n6_; have BK272 := n7_; have HB := n8_; clear n0_ n1_ n2_ n3_ n4_ n5_ n6_ n7_ n8_; (try clear hb); (try clear hb2); (try clear hk); (try clear hi)))
   go_ret
   exact ⟨by first | rfl | (simp [errW_none, errW_some] <;> rfl) | (simp [*, errW_none, errW_some] <;> rfl), bw⟩
  ·rw [if_neg c11] at H
   have c11b0 : (t273 != t262) = false := by simpa using c11
   (try (have c11b1 : decide (t273 = t262) = true := by simpa using c11))
   (try (have c11b2 : (t273 == t262) = true := by simpa using c11))
   clear c11
   replace H := Option.bind_eq_some_iff.mp H
   obtain ⟨⟨t274, t277, t280⟩, A300, H⟩ := H
   replace H : ((laws_eqWork.f k t263 t266 t269 t274 t277 t280).bind fun t283 => (if t283 = true then (some true) else (some false))) = some r := H
   have A30 := Aside0.mk A300
   clear A300
   replace H := Option.bind_eq_some_iff.mp H
   obtain ⟨t283, A310, H⟩ := H
   replace H : (if t283 = true then (some true) else (some false)) = some r := H
   have A31 := Aside0.mk A310
   clear A310
   by_cases c32 : t283 = true
   ·subst c32
    have H1 : (some true) = some r := by rw [if_pos rfl] at H; exact H
    clear H
    have H := H1
    clear H1
    obtain rfl := Option.some.inj H
    go_enter Try.func6, Try.ntmps6
    try go_wp2_with (first | ((with_reducible refine gate_dst (N := 1) rfl ?_); refine box_event ?hg (N := 1) ?hd (cs := #[.slice A0_0 l0_0.length c0_0, .slice A0_1 l0_1.length c0_1, .slice A0_2 l0_2.length c0_2]) (t := 68) ?hr ?_; (case hd => rfl); (case hg => rfl); (case hr => first | (go_simp; done) | (go_simp; rfl)); intro gb251 hg w33 hbox hb; have n0_ := Aside0.mk (below_step bw hb); have n1_ := Aside0.mk (hbox); have n2_ := Aside0.mk ((by rw [hg]; exact (below_size bw) : w.heap.size ≤ gb251)); have n3_ := Aside0.mk ((by rw [hg]; exact (below_size bw) : w.heap.size ≤ gb251)); clear HB; have HB := n0_; have BK251 := n1_; have GW251 := n2_; have GE251 := n3_; clear n0_ n1_ n2_ n3_; clear hb hbox hg; have hcz34_0 : w33.cell? ⟨gb251, 0, none⟩ = some (.slice A0_0 l0_0.length c0_0) := (blk_cell BK251.out 0).trans rfl; have hcz34_1 : w33.cell? ⟨gb251, 1, none⟩ = some (.slice A0_1 l0_1.length c0_1) := (blk_cell BK251.out 1).trans rfl; have hcz34_2 : w33.cell? ⟨gb251, 2, none⟩ = some (.slice A0_2 l0_2.length c0_2) := (blk_cell BK251.out 2).trans rfl; have hfz34_0 := blk_frozen BK251.out 0; have hfz34_1 := blk_frozen BK251.out 1; have hfz34_2 := blk_frozen BK251.out 2) | ((with_reducible refine gate_callee (f := 38) rfl ?_); refine goesL_ (some 9) rfl rfl Try.func38 (by kernel_rfl) rfl #[.agg #[.slice A0_0 l0_0.length c0_0, .slice A0_1 l0_1.length c0_1, .slice A0_2 l0_2.length c0_2], .int .i64 1048576] rfl (by (try simp only [List.map_toArray, List.map_cons, List.map_nil]); first | done | rfl | (simp only [List.length_drop, List.length_take]; rfl)) ?_; (with_reducible refine (laws_szWork.calls _ _ l0_0 _ _ l0_1 _ _ l0_2 1048576 t252 _ ?side1 ?side2 ?side3 ?side4 ?side5 ?side6 A2.out).mono ?_); (case side1 => exact cb HR0_0); (case side2 => exact HC0_0.out); (case side3 => exact cb HR0_1); (case side4 => exact HC0_1.out); (case side5 => exact cb HR0_2); (case side6 => exact HC0_2.out); rintro e w35 ⟨rfl, hb⟩; refine ⟨_, rfl, ?_⟩; have n0_ := bkB BK251 hb; have n1_ := Aside0.mk (below_step bw hb); clear BK251 HB; have BK251 := n0_; have HB := n1_; clear n0_ n1_; (try clear hb); (try clear hb2); (try clear hk); (try clear hi); have hcz36_0 : w35.cell? ⟨gb251, 0, none⟩ = some (.slice A0_0 l0_0.length c0_0) := (blk_cell BK251.out 0).trans rfl; have hcz36_1 : w35.cell? ⟨gb251, 1, none⟩ = some (.slice A0_1 l0_1.length c0_1) := (blk_cell BK251.out 1).trans rfl; have hcz36_2 : w35.cell? ⟨gb251, 2, none⟩ = some (.slice A0_2 l0_2.length c0_2) := (blk_cell BK251.out 2).trans rfl; have hfz36_0 := blk_frozen BK251.out 0; have hfz36_1 := blk_frozen BK251.out 1; have hfz36_2 := blk_frozen BK251.out 2) | ((with_reducible refine gate_callee (f := 40) rfl ?_); refine goesL_ (some 13) rfl rfl Try.func40 (by kernel_rfl) rfl #[.agg #[.slice A0_0 l0_0.length c0_0, .slice A0_1 l0_1.length c0_1, .slice A0_2 l0_2.length c0_2]] rfl (by (try simp only [List.map_toArray, List.map_cons, List.map_nil]); first | done | rfl | (simp only [List.length_drop, List.length_take]; rfl)) ?_; (with_reducible refine (laws_toWork.calls k _ _ l0_0 _ _ l0_1 _ _ l0_2 t253 t256 t259 _ ?side1 ?side2 ?side3 ?side4 ?side5 ?side6 A7.out).mono ?_); (case side1 => exact cb HR0_0); (case side2 => exact HC0_0.out); (case side3 => exact cb HR0_1); (case side4 => exact HC0_1.out); (case side5 => exact cb HR0_2); (case side6 => exact HC0_2.out); rintro e w37 ⟨v254, v257, v260, rfl, ho0, ho1, ho2, hb⟩; refine ⟨_, rfl, ?_⟩; have n0_ := Aside0.mk (Kd.R_lower ho0 (below_size bw)); have n1_ := Aside0.mk (Kd.R_lower ho1 (below_size bw)); have n2_ := Aside0.mk (Kd.R_lower ho2 (below_size bw)); have n3_ := bkB BK251 hb; have n4_ := Aside0.mk (below_step bw hb); clear BK251 HB; have HO255 := n0_; have HO258 := n1_; have HO261 := n2_; have BK251 := n3_; have HB := n4_; clear n0_ n1_ n2_ n3_ n4_; (try clear hb); (try clear hb2); (try clear hk); (try clear hi); (try clear ho0); (try clear ho1); (try clear ho2); obtain ⟨Ao38, co38, eo38⟩ := Kd.R_slice HO255.out; subst eo38; obtain ⟨Ao39, co39, eo39⟩ := Kd.R_slice HO258.out; subst eo39; obtain ⟨Ao40, co40, eo40⟩ := Kd.R_slice HO261.out; subst eo40) | ((with_reducible refine gate_callee (f := 39) rfl ?_); refine goesL_ (some 14) rfl rfl Try.func39 (by kernel_rfl) rfl #[.agg #[.slice Ao38 t253.length co38, .slice Ao39 t256.length co39, .slice Ao40 t259.length co40]] rfl (by (try simp only [List.map_toArray, List.map_cons, List.map_nil]); first | done | rfl | (simp only [List.length_drop, List.length_take]; rfl)) ?_; (with_reducible refine (spec_WorkValid.calls k _ _ t253 _ _ t256 _ _ t259 t262 _ ?side1 ?side2 ?side3 ?side4 ?side5 ?side6 A8.out).mono ?_); (case side1 => repeat (first | exact (Kd.R_reads' HO255.out).2.2 | (with_reducible refine Kd.C_alloc ?_ _) | (with_reducible refine Kd.C_drewN ?_ _) | (with_reducible refine Kd.C_drew ?_))); (case side2 => exact (Kd.R_reads' HO255.out).2.1); (case side3 => repeat (first | exact (Kd.R_reads' HO258.out).2.2 | (with_reducible refine Kd.C_alloc ?_ _) | (with_reducible refine Kd.C_drewN ?_ _) | (with_reducible refine Kd.C_drew ?_))); (case side4 => exact (Kd.R_reads' HO258.out).2.1); (case side5 => repeat (first | exact (Kd.R_reads' HO261.out).2.2 | (with_reducible refine Kd.C_alloc ?_ _) | (with_reducible refine Kd.C_drewN ?_ _) | (with_reducible refine Kd.C_drew ?_))); (case side6 => exact (Kd.R_reads' HO261.out).2.1); rintro e w41 ⟨rfl, hb⟩; refine ⟨_, rfl, ?_⟩; have n0_ := rB HO255 hb; have n1_ := rB HO258 hb; have n2_ := rB HO261 hb; have n3_ := bkB BK251 hb; have n4_ := Aside0.mk (below_step bw hb); clear HO255 HO258 HO261 BK251 HB; have HO255 := n0_; have HO258 := n1_; have HO261 := n2_; have BK251 := n3_; have HB := n4_; clear n0_ n1_ n2_ n3_ n4_; (try clear hb); (try clear hb2); (try clear hk); (try clear hi); have hcz42_0 : w41.cell? ⟨gb251, 0, none⟩ = some (.slice A0_0 l0_0.length c0_0) := (blk_cell BK251.out 0).trans rfl; have hcz42_1 : w41.cell? ⟨gb251, 1, none⟩ = some (.slice A0_1 l0_1.length c0_1) := (blk_cell BK251.out 1).trans rfl; have hcz42_2 : w41.cell? ⟨gb251, 2, none⟩ = some (.slice A0_2 l0_2.length c0_2) := (blk_cell BK251.out 2).trans rfl; have hfz42_0 := blk_frozen BK251.out 0; have hfz42_1 := blk_frozen BK251.out 1; have hfz42_2 := blk_frozen BK251.out 2) | ((with_reducible refine gate_callee (f := 40) rfl ?_); refine goesL_ (some 16) rfl rfl Try.func40 (by kernel_rfl) rfl #[.agg #[.slice A0_0 l0_0.length c0_0, .slice A0_1 l0_1.length c0_1, .slice A0_2 l0_2.length c0_2]] rfl (by (try simp only [List.map_toArray, List.map_cons, List.map_nil]); first | done | rfl | (simp only [List.length_drop, List.length_take]; rfl)) ?_; (with_reducible refine (laws_toWork.calls k _ _ l0_0 _ _ l0_1 _ _ l0_2 t263 t266 t269 _ ?side1 ?side2 ?side3 ?side4 ?side5 ?side6 A9.out).mono ?_); (case side1 => exact cb HR0_0); (case side2 => exact HC0_0.out); (case side3 => exact cb HR0_1); (case side4 => exact HC0_1.out); (case side5 => exact cb HR0_2); (case side6 => exact HC0_2.out); rintro e w43 ⟨v264, v267, v270, rfl, ho0, ho1, ho2, hb⟩; refine ⟨_, rfl, ?_⟩; have n0_ := Aside0.mk (Kd.R_mono (Kd.R_told (Kd.R_told (Kd.R_old (rk HO255) hb) (Kd.R_base ho0)) (Kd.R_base ho1)) (fun _ h_ => h_.1)); have n1_ := Aside0.mk (Kd.R_mono (Kd.R_told (Kd.R_told (Kd.R_old (rk HO258) hb) (Kd.R_base ho0)) (Kd.R_base ho1)) (fun _ h_ => h_.1)); have n2_ := Aside0.mk (Kd.R_elder' (rk HO261) (Kd.R_base ho2) hb); have n3_ := Aside0.mk (Kd.R_lower (Kd.R_new' (Kd.R_new' ho0 (Kd.R_lt (rk HO255))) (Kd.R_lt (rk HO258))) (below_size bw)); have n4_ := Aside0.mk (Kd.R_lower (Kd.R_new' (Kd.R_new' ho1 (Kd.R_lt (rk HO255))) (Kd.R_lt (rk HO258))) (below_size bw)); have n5_ := Aside0.mk (Kd.R_lower (Kd.R_new' ho2 (Kd.R_lt (rk HO261))) (below_size bw)); have n6_ := bkB BK251 hb; have n7_ := Aside0.mk (below_step bw hb); clear HO255 HO258 HO261 BK251 HB; have HO255 := n0_; have HO258 := n1_; have HO261 := n2_; have HO265 := n3_; have HO268 := n4_; have HO271 := n5_; have BK251 := n6_; have HB := n7_; clear n0_ n1_ n2_ n3_ n4_ n5_ n6_ n7_; (try clear hb); (try clear hb2); (try clear hk); (try clear hi); (try clear ho0); (try clear ho1); (try clear ho2)) | ((with_reducible refine gate_dst (N := 5) rfl ?_); refine box_event ?hg (N := 5) ?hd (cs := #[.slice none 0 0, .slice none 0 0, .slice none 0 0]) (t := 73) ?hr ?_; (case hd => rfl); (case hg => rfl); (case hr => first | (go_simp; done) | (go_simp; rfl)); intro gb272 hg w44 hbox hb; have n0_ := rB HO255 hb; have n1_ := rB HO258 hb; have n2_ := rB HO261 hb; have n3_ := rB HO265 hb; have n4_ := rB HO268 hb; have n5_ := rB HO271 hb; have n6_ := bkB BK251 hb; have n7_ := Aside0.mk (below_step bw hb); have n8_ := Aside0.mk (hbox); have n9_ := Aside0.mk ((by rw [hg]; exact (below_size bw) : w.heap.size ≤ gb272)); have n10_ := Aside0.mk ((by rw [hg]; exact (below_size bw) : w.heap.size ≤ gb272)); have n11_ := Aside0.mk ((by rw [hg]; exact Nat.ne_of_lt (blk_lt (g := gb251) (o := .cells #[.slice A0_0 l0_0.length c0_0, .slice A0_1 l0_1.length c0_1, .slice A0_2 l0_2.length c0_2] 68 (0, 0)) (bk BK251)) : gb251 ≠ gb272)); have n12_ := Aside0.mk ((by rw [hg]; exact Nat.ne_of_gt (blk_lt (g := gb251) (o := .cells #[.slice A0_0 l0_0.length c0_0, .slice A0_1 l0_1.length c0_1, .slice A0_2 l0_2.length c0_2] 68 (0, 0)) (bk BK251)) : gb272 ≠ gb251)); clear HO255 HO258 HO261 HO265 HO268 HO271 BK251 HB; have HO255 := n0_; have HO258 := n1_; have HO261 := n2_; have HO265 := n3_; have HO268 := n4_; have HO271 := n5_; have BK251 := n6_; have HB := n7_; have BK272 := n8_; have GW272 := n9_; have GE272 := n10_; have NB251_272 := n11_; have NB272_251 := n12_; clear n0_ n1_ n2_ n3_ n4_ n5_ n6_ n7_ n8_ n9_ n10_ n11_ n12_; clear hb hbox hg; obtain ⟨Ao45, co45, eo45⟩ := Kd.R_slice HO265.out; subst eo45; have hnb46 := NB272_251.out; have hnc46 := NB251_272.out; have hcz47_0 : w44.cell? ⟨gb272, 0, none⟩ = some (.slice none 0 0) := (blk_cell BK272.out 0).trans rfl; have hcz47_1 : w44.cell? ⟨gb272, 1, none⟩ = some (.slice none 0 0) := (blk_cell BK272.out 1).trans rfl; have hcz47_2 : w44.cell? ⟨gb272, 2, none⟩ = some (.slice none 0 0) := (blk_cell BK272.out 2).trans rfl; have hfz47_0 := blk_frozen BK272.out 0; have hfz47_1 := blk_frozen BK272.out 1; have hfz47_2 := blk_frozen BK272.out 2; obtain ⟨Ao48, co48, eo48⟩ := Kd.R_slice HO268.out; subst eo48; obtain ⟨Ao49, co49, eo49⟩ := Kd.R_slice HO271.out; subst eo49) | ((with_reducible refine gate_callee (f := 41) rfl ?_); refine goesL_ (some 18) rfl rfl Try.func41 (by kernel_rfl) rfl #[.agg #[.slice Ao45 t263.length co45, .slice Ao48 t266.length co48, .slice Ao49 t269.length co49]] rfl (by (try simp only [List.map_toArray, List.map_cons, List.map_nil]); first | done | rfl | (simp only [List.length_drop, List.length_take]; rfl)) ?_; (with_reducible refine (impl_WorkValid.calls k _ _ t263 _ _ t266 _ _ t269 t273 _ ?side1 ?side2 ?side3 ?side4 ?side5 ?side6 A10.out).mono ?_); (case side1 => refine (Kd.R_reads' (e := 4) (base := w.heap.size) (ok := fun k_ => ((some k_ ≠ (.slice Ao48 t266.length co48 : Value).ownBlock ∧ some k_ ≠ (.slice Ao38 t253.length co38 : Value).ownBlock) ∧ some k_ ≠ (.slice Ao39 t256.length co39 : Value).ownBlock)) (n := t263.length) (c := co45) ?_).2.2; exact (by (with_reducible repeat (first | apply Kd.R_alloc | apply Kd.R_drewN | apply Kd.R_drew)); exact (Kd.R_mono (Kd.R_far (p := ⟨gb272, 2, none⟩) (Kd.R_far (p := ⟨gb272, 1, none⟩) (Kd.R_far (p := ⟨gb272, 0, none⟩) (Kd.R_types HO265.out BK272.out (by decide)) (fun _ hk => by first | exact hk.2 | grind) (.slice Ao45 t263.length co45)) (fun _ hk => by first | exact hk.2 | grind) (.slice Ao48 t266.length co48)) (fun _ hk => by first | exact hk.2 | grind) (.slice Ao49 t269.length co49)) (fun _ h_ => h_.1)))); (case side2 => exact (Kd.R_reads' HO265.out).2.1); (case side3 => refine (Kd.R_reads' (e := 4) (base := w.heap.size) (ok := fun k_ => ((some k_ ≠ (.slice Ao45 t263.length co45 : Value).ownBlock ∧ some k_ ≠ (.slice Ao38 t253.length co38 : Value).ownBlock) ∧ some k_ ≠ (.slice Ao39 t256.length co39 : Value).ownBlock)) (n := t266.length) (c := co48) ?_).2.2; exact (by (with_reducible repeat (first | apply Kd.R_alloc | apply Kd.R_drewN | apply Kd.R_drew)); exact (Kd.R_mono (Kd.R_far (p := ⟨gb272, 2, none⟩) (Kd.R_far (p := ⟨gb272, 1, none⟩) (Kd.R_far (p := ⟨gb272, 0, none⟩) (Kd.R_types HO268.out BK272.out (by decide)) (fun _ hk => by first | exact hk.2 | grind) (.slice Ao45 t263.length co45)) (fun _ hk => by first | exact hk.2 | grind) (.slice Ao48 t266.length co48)) (fun _ hk => by first | exact hk.2 | grind) (.slice Ao49 t269.length co49)) (fun _ h_ => h_.1)))); (case side4 => exact (Kd.R_reads' HO268.out).2.1); (case side5 => refine (Kd.R_reads' (e := 112) (base := w.heap.size) (ok := fun k_ => (True ∧ some k_ ≠ (.slice Ao40 t259.length co40 : Value).ownBlock)) (n := t269.length) (c := co49) ?_).2.2; exact (by (with_reducible repeat (first | apply Kd.R_alloc | apply Kd.R_drewN | apply Kd.R_drew)); exact (Kd.R_mono (Kd.R_far (p := ⟨gb272, 2, none⟩) (Kd.R_far (p := ⟨gb272, 1, none⟩) (Kd.R_far (p := ⟨gb272, 0, none⟩) (Kd.R_types HO271.out BK272.out (by decide)) (fun _ hk => by first | exact hk.2 | grind) (.slice Ao45 t263.length co45)) (fun _ hk => by first | exact hk.2 | grind) (.slice Ao48 t266.length co48)) (fun _ hk => by first | exact hk.2 | grind) (.slice Ao49 t269.length co49)) (fun _ h_ => h_.1)))); (case side6 => exact (Kd.R_reads' HO271.out).2.1); rintro e w50 ⟨rfl, hb⟩; refine ⟨_, rfl, ?_⟩; have n0_ := Aside0.mk (Kd.R_below (by (with_reducible repeat (first | apply Kd.R_alloc | apply Kd.R_drewN | apply Kd.R_drew)); exact (Kd.R_mono (Kd.R_far (p := ⟨gb272, 2, none⟩) (Kd.R_far (p := ⟨gb272, 1, none⟩) (Kd.R_far (p := ⟨gb272, 0, none⟩) (Kd.R_types HO255.out BK272.out (by decide)) (fun _ hk => by first | exact hk.2 | grind) (.slice Ao45 t263.length co45)) (fun _ hk => by first | exact hk.2 | grind) (.slice Ao48 t266.length co48)) (fun _ hk => by first | exact hk.2 | grind) (.slice Ao49 t269.length co49)) (fun _ h_ => h_.1))) hb); have n1_ := Aside0.mk (Kd.R_below (by (with_reducible repeat (first | apply Kd.R_alloc | apply Kd.R_drewN | apply Kd.R_drew)); exact (Kd.R_mono (Kd.R_far (p := ⟨gb272, 2, none⟩) (Kd.R_far (p := ⟨gb272, 1, none⟩) (Kd.R_far (p := ⟨gb272, 0, none⟩) (Kd.R_types HO258.out BK272.out (by decide)) (fun _ hk => by first | exact hk.2 | grind) (.slice Ao45 t263.length co45)) (fun _ hk => by first | exact hk.2 | grind) (.slice Ao48 t266.length co48)) (fun _ hk => by first | exact hk.2 | grind) (.slice Ao49 t269.length co49)) (fun _ h_ => h_.1))) hb); have n2_ := Aside0.mk (Kd.R_below (by (with_reducible repeat (first | apply Kd.R_alloc | apply Kd.R_drewN | apply Kd.R_drew)); exact (Kd.R_mono (Kd.R_far (p := ⟨gb272, 2, none⟩) (Kd.R_far (p := ⟨gb272, 1, none⟩) (Kd.R_far (p := ⟨gb272, 0, none⟩) (Kd.R_types HO261.out BK272.out (by decide)) (fun _ hk => by first | exact hk.2 | grind) (.slice Ao45 t263.length co45)) (fun _ hk => by first | exact hk.2 | grind) (.slice Ao48 t266.length co48)) (fun _ hk => by first | exact hk.2 | grind) (.slice Ao49 t269.length co49)) (fun _ h_ => h_.1))) hb); have n3_ := Aside0.mk (Kd.R_below (by (with_reducible repeat (first | apply Kd.R_alloc | apply Kd.R_drewN | apply Kd.R_drew)); exact (Kd.R_mono (Kd.R_far (p := ⟨gb272, 2, none⟩) (Kd.R_far (p := ⟨gb272, 1, none⟩) (Kd.R_far (p := ⟨gb272, 0, none⟩) (Kd.R_types HO265.out BK272.out (by decide)) (fun _ hk => by first | exact hk.2 | grind) (.slice Ao45 t263.length co45)) (fun _ hk => by first | exact hk.2 | grind) (.slice Ao48 t266.length co48)) (fun _ hk => by first | exact hk.2 | grind) (.slice Ao49 t269.length co49)) (fun _ h_ => h_.1))) hb); have n4_ := Aside0.mk (Kd.R_below (by (with_reducible repeat (first | apply Kd.R_alloc | apply Kd.R_drewN | apply Kd.R_drew)); exact (Kd.R_mono (Kd.R_far (p := ⟨gb272, 2, none⟩) (Kd.R_far (p := ⟨gb272, 1, none⟩) (Kd.R_far (p := ⟨gb272, 0, none⟩) (Kd.R_types HO268.out BK272.out (by decide)) (fun _ hk => by first | exact hk.2 | grind) (.slice Ao45 t263.length co45)) (fun _ hk => by first | exact hk.2 | grind) (.slice Ao48 t266.length co48)) (fun _ hk => by first | exact hk.2 | grind) (.slice Ao49 t269.length co49)) (fun _ h_ => h_.1))) hb); have n5_ := Aside0.mk (Kd.R_below (by (with_reducible repeat (first | apply Kd.R_alloc | apply Kd.R_drewN | apply Kd.R_drew)); exact (Kd.R_mono (Kd.R_far (p := ⟨gb272, 2, none⟩) (Kd.R_far (p := ⟨gb272, 1, none⟩) (Kd.R_far (p := ⟨gb272, 0, none⟩) (Kd.R_types HO271.out BK272.out (by decide)) (fun _ hk => by first | exact hk.2 | grind) (.slice Ao45 t263.length co45)) (fun _ hk => by first | exact hk.2 | grind) (.slice Ao48 t266.length co48)) (fun _ hk => by first | exact hk.2 | grind) (.slice Ao49 t269.length co49)) (fun _ h_ => h_.1))) hb); have n6_ := Aside0.mk (blk_below (g := gb251) (o := .cells #[.slice A0_0 l0_0.length c0_0, .slice A0_1 l0_1.length c0_1, .slice A0_2 l0_2.length c0_2] 68 (0, 0)) (by (with_reducible repeat (first | refine blk_drewN ?_ _ | refine blk_drew ?_ | refine blk_alloc ?_ _)); refine blk_far ?_ NB251_272.out _; (with_reducible repeat (first | refine blk_drewN ?_ _ | refine blk_drew ?_ | refine blk_alloc ?_ _)); refine blk_far ?_ NB251_272.out _; (with_reducible repeat (first | refine blk_drewN ?_ _ | refine blk_drew ?_ | refine blk_alloc ?_ _)); refine blk_far ?_ NB251_272.out _; (with_reducible repeat (first | refine blk_drewN ?_ _ | refine blk_drew ?_ | refine blk_alloc ?_ _)); exact BK251.out) hb); have n7_ := Aside0.mk (blk_below (g := gb272) (o := .cells #[.slice Ao45 t263.length co45, .slice Ao48 t266.length co48, .slice Ao49 t269.length co49] 73 (0, 0)) (by (with_reducible repeat (first | refine blk_drewN ?_ _ | refine blk_drew ?_ | refine blk_alloc ?_ _)); refine blk_put (cs := #[.slice Ao45 t263.length co45, .slice Ao48 t266.length co48, .slice none 0 0]) ?_ 2 _ rfl; (with_reducible repeat (first | refine blk_drewN ?_ _ | refine blk_drew ?_ | refine blk_alloc ?_ _)); refine blk_put (cs := #[.slice Ao45 t263.length co45, .slice none 0 0, .slice none 0 0]) ?_ 1 _ rfl; (with_reducible repeat (first | refine blk_drewN ?_ _ | refine blk_drew ?_ | refine blk_alloc ?_ _)); refine blk_put (cs := #[.slice none 0 0, .slice none 0 0, .slice none 0 0]) ?_ 0 _ rfl; (with_reducible repeat (first | refine blk_drewN ?_ _ | refine blk_drew ?_ | refine blk_alloc ?_ _)); exact BK272.out) hb); have n8_ := Aside0.mk (below_step bw hb); clear HO255 HO258 HO261 HO265 HO268 HO271 BK251 BK272 HB; have HO255 := n0_; have HO258 := n1_; have HO261 := n2_; have HO265 := n3_; have HO268 := n4_; have HO271 := n5_; have BK251 := n6_; have BK272 := n7_; have HB := n8_; clear n0_ n1_ n2_ n3_ n4_ n5_ n6_ n7_ n8_; (try clear hb); (try clear hb2); (try clear hk); (try clear hi)))
    have n0_ := Aside0.mk (Kd.R_drew HO255.out)
    have n1_ := Aside0.mk (Kd.R_drew HO258.out)
    have n2_ := Aside0.mk (Kd.R_drew HO261.out)
    have n3_ := Aside0.mk (Kd.R_drew HO265.out)
    have n4_ := Aside0.mk (Kd.R_drew HO268.out)
    have n5_ := Aside0.mk (Kd.R_drew HO271.out)
    have n6_ := Aside0.mk (blk_drew BK251.out)
    have n7_ := Aside0.mk (blk_drew BK272.out)
    have n8_ := Aside0.mk (below_drew1 HB.out)
    clear HO255
    clear HO258
    clear HO261
    clear HO265
    clear HO268
    clear HO271
    clear BK251
    clear BK272
    clear HB
    have HO255 := n0_
    have HO258 := n1_
    have HO261 := n2_
    have HO265 := n3_
    have HO268 := n4_
    have HO271 := n5_
    have BK251 := n6_
    have BK272 := n7_
    have HB := n8_
    clear n0_ n1_ n2_ n3_ n4_ n5_ n6_ n7_ n8_
    refine start_ (n := 5) (S := fun w' => w'.cell? ⟨gb272, 0, none⟩ = some (.slice Ao45 t263.length co45) ∧ w'.cell? ⟨gb272, 1, none⟩ = some (.slice Ao48 t266.length co48) ∧ w'.cell? ⟨gb272, 2, none⟩ = some (.slice Ao49 t269.length co49) ∧ w'.cell? ⟨gb251, 0, none⟩ = some (.slice A0_0 l0_0.length c0_0) ∧ w'.cell? ⟨gb251, 1, none⟩ = some (.slice A0_1 l0_1.length c0_1) ∧ w'.cell? ⟨gb251, 2, none⟩ = some (.slice A0_2 l0_2.length c0_2)) (ds := []) #[false, false, false, false, false] (by kernel_rfl) rfl rfl ⟨(blk_cell BK272.out 0).trans rfl, (blk_cell BK272.out 1).trans rfl, (blk_cell BK272.out 2).trans rfl, (blk_cell BK251.out 0).trans rfl, (blk_cell BK251.out 1).trans rfl, (blk_cell BK251.out 2).trans rfl⟩ (fun hHeld => ?_)
    generalize w50.drew = w51 at HO255 HO258 HO261 HO265 HO268 HO271 BK251 BK272 HB hHeld ⊢
    refine take_ (i := 0) (N := some 22) (v := ?_) (a' := ?_) #[true, false, false, false, false] rfl rfl (by kernel_rfl) (fun _ _ _ h => h) (Or.inl ⟨by rfl, ?_⟩) hHeld ?_ ?_
    rotate_left
    ·rintro w' ⟨s0, s1, s2, s3, s4, s5⟩
     go_simp
     with_reducible rfl
    rotate_left
    ·simp only [Act.put, List.setIfInBounds_toArray, List.set_cons_zero, List.set_cons_succ, i64_w, i32_w]
     rfl
    refine take_ (i := 1) (N := some 23) (v := ?_) (a' := ?_) #[true, true, false, false, false] rfl rfl (by kernel_rfl) (fun _ _ _ h => h) (Or.inl ⟨by rfl, ?_⟩) hHeld ?_ ?_
    rotate_left
    ·rintro w' ⟨s0, s1, s2, s3, s4, s5⟩
     go_simp
     with_reducible rfl
    rotate_left
    ·simp only [Act.put, List.setIfInBounds_toArray, List.set_cons_zero, List.set_cons_succ, i64_w, i32_w]
     rfl
    refine one_ (i := 2) (N := some 24) #[true, true, true, false, false] rfl rfl (by kernel_rfl) (by decide) (fun K hK => ?_)
    refine goes_ Try.func40 (by kernel_rfl) rfl #[.agg #[.slice A0_0 l0_0.length c0_0, .slice A0_1 l0_1.length c0_1, .slice A0_2 l0_2.length c0_2]] (by rfl) rfl rfl (by (try simp only [List.map_toArray, List.map_cons, List.map_nil]); first | done | rfl | (simp only [List.length_drop, List.length_take]; rfl)) ?_
    with_reducible refine (laws_toWork.calls k _ _ l0_0 _ _ l0_1 _ _ l0_2 t274 t277 t280 _ ?side1 ?side2 ?side3 ?side4 ?side5 ?side6 A30.out).mono ?_
    (case side1 => exact cb HR0_0)
    (case side2 => exact HC0_0.out)
    (case side3 => exact cb HR0_1)
    (case side4 => exact HC0_1.out)
    (case side5 => exact cb HR0_2)
    (case side6 => exact HC0_2.out)
    rintro e w52 ⟨v275, v278, v281, rfl, ho0, ho1, ho2, hb⟩
    refine ⟨_, rfl, ?_⟩
    have n0_ := Aside0.mk (Kd.R_mono (Kd.R_told (Kd.R_told (Kd.R_old (rk HO255) hb) (Kd.R_base ho0)) (Kd.R_base ho1)) (fun _ h_ => h_.1))
    have n1_ := Aside0.mk (Kd.R_mono (Kd.R_told (Kd.R_told (Kd.R_old (rk HO258) hb) (Kd.R_base ho0)) (Kd.R_base ho1)) (fun _ h_ => h_.1))
    have n2_ := Aside0.mk (Kd.R_elder' (rk HO261) (Kd.R_base ho2) hb)
    have n3_ := Aside0.mk (Kd.R_mono (Kd.R_told (Kd.R_told (Kd.R_old (rk HO265) hb) (Kd.R_base ho0)) (Kd.R_base ho1)) (fun _ h_ => h_.1))
    have n4_ := Aside0.mk (Kd.R_mono (Kd.R_told (Kd.R_told (Kd.R_old (rk HO268) hb) (Kd.R_base ho0)) (Kd.R_base ho1)) (fun _ h_ => h_.1))
    have n5_ := Aside0.mk (Kd.R_elder' (rk HO271) (Kd.R_base ho2) hb)
    have n6_ := Aside0.mk (Kd.R_lower (Kd.R_new' (Kd.R_new' (Kd.R_new' (Kd.R_new' ho0 (Kd.R_lt (rk HO255))) (Kd.R_lt (rk HO258))) (Kd.R_lt (rk HO265))) (Kd.R_lt (rk HO268))) (below_size bw))
    have n7_ := Aside0.mk (Kd.R_lower (Kd.R_new' (Kd.R_new' (Kd.R_new' (Kd.R_new' ho1 (Kd.R_lt (rk HO255))) (Kd.R_lt (rk HO258))) (Kd.R_lt (rk HO265))) (Kd.R_lt (rk HO268))) (below_size bw))
    have n8_ := Aside0.mk (Kd.R_lower (Kd.R_new' (Kd.R_new' ho2 (Kd.R_lt (rk HO261))) (Kd.R_lt (rk HO271))) (below_size bw))
    have n9_ := bkB BK251 hb
    have n10_ := bkB BK272 hb
    have n11_ := Aside0.mk (below_step bw hb)
    clear HO255
    clear HO258
    clear HO261
    clear HO265
    clear HO268
    clear HO271
    clear BK251
    clear BK272
    clear HB
    have HO255 := n0_
    have HO258 := n1_
    have HO261 := n2_
    have HO265 := n3_
    have HO268 := n4_
    have HO271 := n5_
    have HO276 := n6_
    have HO279 := n7_
    have HO282 := n8_
    have BK251 := n9_
    have BK272 := n10_
    have HB := n11_
    clear n0_ n1_ n2_ n3_ n4_ n5_ n6_ n7_ n8_ n9_ n10_ n11_
    (try clear hb)
    (try clear hb2)
    (try clear hk)
    (try clear hi)
    (try clear ho0)
    (try clear ho1)
    (try clear ho2)
    obtain ⟨Ao53, co53, eo53⟩ := Kd.R_slice HO276.out
    (first | subst eo53 | (injection eo53 with f1_ f2_ f3_; have f4_ := f1_.symm; have f5_ := f3_.symm; clear f1_ f2_ f3_; subst f4_; subst f5_))
    obtain ⟨Ao54, co54, eo54⟩ := Kd.R_slice HO279.out
    (first | subst eo54 | (injection eo54 with f1_ f2_ f3_; have f4_ := f1_.symm; have f5_ := f3_.symm; clear f1_ f2_ f3_; subst f4_; subst f5_))
    obtain ⟨Ao55, co55, eo55⟩ := Kd.R_slice HO282.out
    (first | subst eo55 | (injection eo55 with f1_ f2_ f3_; have f4_ := f1_.symm; have f5_ := f3_.symm; clear f1_ f2_ f3_; subst f4_; subst f5_))
    refine hK.out _ _ ⟨(blk_cell BK272.out 0).trans rfl, (blk_cell BK272.out 1).trans rfl, (blk_cell BK272.out 2).trans rfl, (blk_cell BK251.out 0).trans rfl, (blk_cell BK251.out 1).trans rfl, (blk_cell BK251.out 2).trans rfl⟩ (fun hHeld => ?_)
    clear hK K
    refine norm_ (a' := ?_) ?_ ?_
    rotate_left
    ·show Act.put _ (some 24) _ = _
     simp only [Act.put, List.setIfInBounds_toArray, List.set_cons_zero, List.set_cons_succ, i64_w, i32_w]
     rfl
    refine one_ (i := 3) (N := some 25) #[true, true, true, true, false] rfl rfl (by kernel_rfl) (by decide) (fun K hK => ?_)
    refine goes_ Try.func42 (by kernel_rfl) rfl #[.agg #[.slice Ao45 t263.length co45, .slice Ao48 t266.length co48, .slice Ao49 t269.length co49], .agg #[.slice Ao53 t274.length co53, .slice Ao54 t277.length co54, .slice Ao55 t280.length co55]] (by rfl) rfl rfl (by (try simp only [List.map_toArray, List.map_cons, List.map_nil]); first | done | rfl | (simp only [List.length_drop, List.length_take]; rfl)) ?_
    with_reducible refine (laws_eqWork.calls k _ _ t263 _ _ t266 _ _ t269 _ _ t274 _ _ t277 _ _ t280 true _ ?side1 ?side2 ?side3 ?side4 ?side5 ?side6 ?side7 ?side8 ?side9 ?side10 ?side11 ?side12 A31.out).mono ?_
    (case side1 => repeat (first | exact (Kd.R_reads' HO265.out).2.2 | (with_reducible refine Kd.C_alloc ?_ _) | (with_reducible refine Kd.C_drewN ?_ _) | (with_reducible refine Kd.C_drew ?_)))
    (case side2 => exact (Kd.R_reads' HO265.out).2.1)
    (case side3 => repeat (first | exact (Kd.R_reads' HO268.out).2.2 | (with_reducible refine Kd.C_alloc ?_ _) | (with_reducible refine Kd.C_drewN ?_ _) | (with_reducible refine Kd.C_drew ?_)))
    (case side4 => exact (Kd.R_reads' HO268.out).2.1)
    (case side5 => repeat (first | exact (Kd.R_reads' HO271.out).2.2 | (with_reducible refine Kd.C_alloc ?_ _) | (with_reducible refine Kd.C_drewN ?_ _) | (with_reducible refine Kd.C_drew ?_)))
    (case side6 => exact (Kd.R_reads' HO271.out).2.1)
    (case side7 => repeat (first | exact (Kd.R_reads' HO276.out).2.2 | (with_reducible refine Kd.C_alloc ?_ _) | (with_reducible refine Kd.C_drewN ?_ _) | (with_reducible refine Kd.C_drew ?_)))
    (case side8 => exact (Kd.R_reads' HO276.out).2.1)
    (case side9 => repeat (first | exact (Kd.R_reads' HO279.out).2.2 | (with_reducible refine Kd.C_alloc ?_ _) | (with_reducible refine Kd.C_drewN ?_ _) | (with_reducible refine Kd.C_drew ?_)))
    (case side10 => exact (Kd.R_reads' HO279.out).2.1)
    (case side11 => repeat (first | exact (Kd.R_reads' HO282.out).2.2 | (with_reducible refine Kd.C_alloc ?_ _) | (with_reducible refine Kd.C_drewN ?_ _) | (with_reducible refine Kd.C_drew ?_)))
    (case side12 => exact (Kd.R_reads' HO282.out).2.1)
    rintro e w56 ⟨rfl, hb⟩
    refine ⟨_, rfl, ?_⟩
    have n0_ := rB HO255 hb
    have n1_ := rB HO258 hb
    have n2_ := rB HO261 hb
    have n3_ := rB HO265 hb
    have n4_ := rB HO268 hb
    have n5_ := rB HO271 hb
    have n6_ := rB HO276 hb
    have n7_ := rB HO279 hb
    have n8_ := rB HO282 hb
    have n9_ := bkB BK251 hb
    have n10_ := bkB BK272 hb
    have n11_ := Aside0.mk (below_step bw hb)
    clear HO255
    clear HO258
    clear HO261
    clear HO265
    clear HO268
    clear HO271
    clear HO276
    clear HO279
    clear HO282
    clear BK251
    clear BK272
    clear HB
    have HO255 := n0_
    have HO258 := n1_
    have HO261 := n2_
    have HO265 := n3_
    have HO268 := n4_
    have HO271 := n5_
    have HO276 := n6_
    have HO279 := n7_
    have HO282 := n8_
    have BK251 := n9_
    have BK272 := n10_
    have HB := n11_
    clear n0_ n1_ n2_ n3_ n4_ n5_ n6_ n7_ n8_ n9_ n10_ n11_
    (try clear hb)
    (try clear hb2)
    (try clear hk)
    (try clear hi)
    refine hK.out _ _ ⟨(blk_cell BK272.out 0).trans rfl, (blk_cell BK272.out 1).trans rfl, (blk_cell BK272.out 2).trans rfl, (blk_cell BK251.out 0).trans rfl, (blk_cell BK251.out 1).trans rfl, (blk_cell BK251.out 2).trans rfl⟩ (fun hHeld => ?_)
    clear hK K
    refine norm_ (a' := ?_) ?_ ?_
    rotate_left
    ·show Act.put _ (some 25) _ = _
     simp only [Act.put, List.setIfInBounds_toArray, List.set_cons_zero, List.set_cons_succ, i64_w, i32_w]
     rfl
    refine pure_ (i := 4) (N := some 26) (v := ?_) (a' := ?_) #[true, true, true, true, true] rfl rfl (by kernel_rfl) (fun _ _ _ h => h) (Or.inl ⟨by rfl, ?_⟩) ?_ ?_
    rotate_left
    ·intro w'
     go_simp
     with_reducible rfl
    rotate_left
    ·simp only [Act.put, List.setIfInBounds_toArray, List.set_cons_zero, List.set_cons_succ, i64_w, i32_w]
     rfl
    refine done_ (by kernel_rfl) ?_
    try go_wp2
    go_ret
    exact ⟨by first | rfl | (simp [errW_none, errW_some] <;> rfl) | (simp [*, errW_none, errW_some] <;> rfl), bw⟩
   ·replace c32 := Bool.eq_false_iff.mpr c32
    subst c32
    have H1 : (some false) = some r := by rw [if_neg (show ¬ (false = true) by decide)] at H; exact H
    clear H
    have H := H1
    clear H1
    obtain rfl := Option.some.inj H
    go_enter Try.func6, Try.ntmps6
    try go_wp2_with (first | ((with_reducible refine gate_dst (N := 1) rfl ?_); refine box_event ?hg (N := 1) ?hd (cs := #[.slice A0_0 l0_0.length c0_0, .slice A0_1 l0_1.length c0_1, .slice A0_2 l0_2.length c0_2]) (t := 68) ?hr ?_; (case hd => rfl); (case hg => rfl); (case hr => first | (go_simp; done) | (go_simp; rfl)); intro gb251 hg w57 hbox hb; have n0_ := Aside0.mk (below_step bw hb); have n1_ := Aside0.mk (hbox); have n2_ := Aside0.mk ((by rw [hg]; exact (below_size bw) : w.heap.size ≤ gb251)); have n3_ := Aside0.mk ((by rw [hg]; exact (below_size bw) : w.heap.size ≤ gb251)); clear HB; have HB := n0_; have BK251 := n1_; have GW251 := n2_; have GE251 := n3_; clear n0_ n1_ n2_ n3_; clear hb hbox hg; have hcz58_0 : w57.cell? ⟨gb251, 0, none⟩ = some (.slice A0_0 l0_0.length c0_0) := (blk_cell BK251.out 0).trans rfl; have hcz58_1 : w57.cell? ⟨gb251, 1, none⟩ = some (.slice A0_1 l0_1.length c0_1) := (blk_cell BK251.out 1).trans rfl; have hcz58_2 : w57.cell? ⟨gb251, 2, none⟩ = some (.slice A0_2 l0_2.length c0_2) := (blk_cell BK251.out 2).trans rfl; have hfz58_0 := blk_frozen BK251.out 0; have hfz58_1 := blk_frozen BK251.out 1; have hfz58_2 := blk_frozen BK251.out 2) | ((with_reducible refine gate_callee (f := 38) rfl ?_); refine goesL_ (some 9) rfl rfl Try.func38 (by kernel_rfl) rfl #[.agg #[.slice A0_0 l0_0.length c0_0, .slice A0_1 l0_1.length c0_1, .slice A0_2 l0_2.length c0_2], .int .i64 1048576] rfl (by (try simp only [List.map_toArray, List.map_cons, List.map_nil]); first | done | rfl | (simp only [List.length_drop, List.length_take]; rfl)) ?_; (with_reducible refine (laws_szWork.calls _ _ l0_0 _ _ l0_1 _ _ l0_2 1048576 t252 _ ?side1 ?side2 ?side3 ?side4 ?side5 ?side6 A2.out).mono ?_); (case side1 => exact cb HR0_0); (case side2 => exact HC0_0.out); (case side3 => exact cb HR0_1); (case side4 => exact HC0_1.out); (case side5 => exact cb HR0_2); (case side6 => exact HC0_2.out); rintro e w59 ⟨rfl, hb⟩; refine ⟨_, rfl, ?_⟩; have n0_ := bkB BK251 hb; have n1_ := Aside0.mk (below_step bw hb); clear BK251 HB; have BK251 := n0_; have HB := n1_; clear n0_ n1_; (try clear hb); (try clear hb2); (try clear hk); (try clear hi); have hcz60_0 : w59.cell? ⟨gb251, 0, none⟩ = some (.slice A0_0 l0_0.length c0_0) := (blk_cell BK251.out 0).trans rfl; have hcz60_1 : w59.cell? ⟨gb251, 1, none⟩ = some (.slice A0_1 l0_1.length c0_1) := (blk_cell BK251.out 1).trans rfl; have hcz60_2 : w59.cell? ⟨gb251, 2, none⟩ = some (.slice A0_2 l0_2.length c0_2) := (blk_cell BK251.out 2).trans rfl; have hfz60_0 := blk_frozen BK251.out 0; have hfz60_1 := blk_frozen BK251.out 1; have hfz60_2 := blk_frozen BK251.out 2) | ((with_reducible refine gate_callee (f := 40) rfl ?_); refine goesL_ (some 13) rfl rfl Try.func40 (by kernel_rfl) rfl #[.agg #[.slice A0_0 l0_0.length c0_0, .slice A0_1 l0_1.length c0_1, .slice A0_2 l0_2.length c0_2]] rfl (by (try simp only [List.map_toArray, List.map_cons, List.map_nil]); first | done | rfl | (simp only [List.length_drop, List.length_take]; rfl)) ?_; (with_reducible refine (laws_toWork.calls k _ _ l0_0 _ _ l0_1 _ _ l0_2 t253 t256 t259 _ ?side1 ?side2 ?side3 ?side4 ?side5 ?side6 A7.out).mono ?_); (case side1 => exact cb HR0_0); (case side2 => exact HC0_0.out); (case side3 => exact cb HR0_1); (case side4 => exact HC0_1.out); (case side5 => exact cb HR0_2); (case side6 => exact HC0_2.out); rintro e w61 ⟨v254, v257, v260, rfl, ho0, ho1, ho2, hb⟩; refine ⟨_, rfl, ?_⟩; have n0_ := Aside0.mk (Kd.R_lower ho0 (below_size bw)); have n1_ := Aside0.mk (Kd.R_lower ho1 (below_size bw)); have n2_ := Aside0.mk (Kd.R_lower ho2 (below_size bw)); have n3_ := bkB BK251 hb; have n4_ := Aside0.mk (below_step bw hb); clear BK251 HB; have HO255 := n0_; have HO258 := n1_; have HO261 := n2_; have BK251 := n3_; have HB := n4_; clear n0_ n1_ n2_ n3_ n4_; (try clear hb); (try clear hb2); (try clear hk); (try clear hi); (try clear ho0); (try clear ho1); (try clear ho2); obtain ⟨Ao62, co62, eo62⟩ := Kd.R_slice HO255.out; subst eo62; obtain ⟨Ao63, co63, eo63⟩ := Kd.R_slice HO258.out; subst eo63; obtain ⟨Ao64, co64, eo64⟩ := Kd.R_slice HO261.out; subst eo64) | ((with_reducible refine gate_callee (f := 39) rfl ?_); refine goesL_ (some 14) rfl rfl Try.func39 (by kernel_rfl) rfl #[.agg #[.slice Ao62 t253.length co62, .slice Ao63 t256.length co63, .slice Ao64 t259.length co64]] rfl (by (try simp only [List.map_toArray, List.map_cons, List.map_nil]); first | done | rfl | (simp only [List.length_drop, List.length_take]; rfl)) ?_; (with_reducible refine (spec_WorkValid.calls k _ _ t253 _ _ t256 _ _ t259 t262 _ ?side1 ?side2 ?side3 ?side4 ?side5 ?side6 A8.out).mono ?_); (case side1 => repeat (first | exact (Kd.R_reads' HO255.out).2.2 | (with_reducible refine Kd.C_alloc ?_ _) | (with_reducible refine Kd.C_drewN ?_ _) | (with_reducible refine Kd.C_drew ?_))); (case side2 => exact (Kd.R_reads' HO255.out).2.1); (case side3 => repeat (first | exact (Kd.R_reads' HO258.out).2.2 | (with_reducible refine Kd.C_alloc ?_ _) | (with_reducible refine Kd.C_drewN ?_ _) | (with_reducible refine Kd.C_drew ?_))); (case side4 => exact (Kd.R_reads' HO258.out).2.1); (case side5 => repeat (first | exact (Kd.R_reads' HO261.out).2.2 | (with_reducible refine Kd.C_alloc ?_ _) | (with_reducible refine Kd.C_drewN ?_ _) | (with_reducible refine Kd.C_drew ?_))); (case side6 => exact (Kd.R_reads' HO261.out).2.1); rintro e w65 ⟨rfl, hb⟩; refine ⟨_, rfl, ?_⟩; have n0_ := rB HO255 hb; have n1_ := rB HO258 hb; have n2_ := rB HO261 hb; have n3_ := bkB BK251 hb; have n4_ := Aside0.mk (below_step bw hb); clear HO255 HO258 HO261 BK251 HB; have HO255 := n0_; have HO258 := n1_; have HO261 := n2_; have BK251 := n3_; have HB := n4_; clear n0_ n1_ n2_ n3_ n4_; (try clear hb); (try clear hb2); (try clear hk); (try clear hi); have hcz66_0 : w65.cell? ⟨gb251, 0, none⟩ = some (.slice A0_0 l0_0.length c0_0) := (blk_cell BK251.out 0).trans rfl; have hcz66_1 : w65.cell? ⟨gb251, 1, none⟩ = some (.slice A0_1 l0_1.length c0_1) := (blk_cell BK251.out 1).trans rfl; have hcz66_2 : w65.cell? ⟨gb251, 2, none⟩ = some (.slice A0_2 l0_2.length c0_2) := (blk_cell BK251.out 2).trans rfl; have hfz66_0 := blk_frozen BK251.out 0; have hfz66_1 := blk_frozen BK251.out 1; have hfz66_2 := blk_frozen BK251.out 2) | ((with_reducible refine gate_callee (f := 40) rfl ?_); refine goesL_ (some 16) rfl rfl Try.func40 (by kernel_rfl) rfl #[.agg #[.slice A0_0 l0_0.length c0_0, .slice A0_1 l0_1.length c0_1, .slice A0_2 l0_2.length c0_2]] rfl (by (try simp only [List.map_toArray, List.map_cons, List.map_nil]); first | done | rfl | (simp only [List.length_drop, List.length_take]; rfl)) ?_; (with_reducible refine (laws_toWork.calls k _ _ l0_0 _ _ l0_1 _ _ l0_2 t263 t266 t269 _ ?side1 ?side2 ?side3 ?side4 ?side5 ?side6 A9.out).mono ?_); (case side1 => exact cb HR0_0); (case side2 => exact HC0_0.out); (case side3 => exact cb HR0_1); (case side4 => exact HC0_1.out); (case side5 => exact cb HR0_2); (case side6 => exact HC0_2.out); rintro e w67 ⟨v264, v267, v270, rfl, ho0, ho1, ho2, hb⟩; refine ⟨_, rfl, ?_⟩; have n0_ := Aside0.mk (Kd.R_mono (Kd.R_told (Kd.R_told (Kd.R_old (rk HO255) hb) (Kd.R_base ho0)) (Kd.R_base ho1)) (fun _ h_ => h_.1)); have n1_ := Aside0.mk (Kd.R_mono (Kd.R_told (Kd.R_told (Kd.R_old (rk HO258) hb) (Kd.R_base ho0)) (Kd.R_base ho1)) (fun _ h_ => h_.1)); have n2_ := Aside0.mk (Kd.R_elder' (rk HO261) (Kd.R_base ho2) hb); have n3_ := Aside0.mk (Kd.R_lower (Kd.R_new' (Kd.R_new' ho0 (Kd.R_lt (rk HO255))) (Kd.R_lt (rk HO258))) (below_size bw)); have n4_ := Aside0.mk (Kd.R_lower (Kd.R_new' (Kd.R_new' ho1 (Kd.R_lt (rk HO255))) (Kd.R_lt (rk HO258))) (below_size bw)); have n5_ := Aside0.mk (Kd.R_lower (Kd.R_new' ho2 (Kd.R_lt (rk HO261))) (below_size bw)); have n6_ := bkB BK251 hb; have n7_ := Aside0.mk (below_step bw hb); clear HO255 HO258 HO261 BK251 HB; have HO255 := n0_; have HO258 := n1_; have HO261 := n2_; have HO265 := n3_; have HO268 := n4_; have HO271 := n5_; have BK251 := n6_; have HB := n7_; clear n0_ n1_ n2_ n3_ n4_ n5_ n6_ n7_; (try clear hb); (try clear hb2); (try clear hk); (try clear hi); (try clear ho0); (try clear ho1); (try clear ho2)) | ((with_reducible refine gate_dst (N := 5) rfl ?_); refine box_event ?hg (N := 5) ?hd (cs := #[.slice none 0 0, .slice none 0 0, .slice none 0 0]) (t := 73) ?hr ?_; (case hd => rfl); (case hg => rfl); (case hr => first | (go_simp; done) | (go_simp; rfl)); intro gb272 hg w68 hbox hb; have n0_ := rB HO255 hb; have n1_ := rB HO258 hb; have n2_ := rB HO261 hb; have n3_ := rB HO265 hb; have n4_ := rB HO268 hb; have n5_ := rB HO271 hb; have n6_ := bkB BK251 hb; have n7_ := Aside0.mk (below_step bw hb); have n8_ := Aside0.mk (hbox); have n9_ := Aside0.mk ((by rw [hg]; exact (below_size bw) : w.heap.size ≤ gb272)); have n10_ := Aside0.mk ((by rw [hg]; exact (below_size bw) : w.heap.size ≤ gb272)); have n11_ := Aside0.mk ((by rw [hg]; exact Nat.ne_of_lt (blk_lt (g := gb251) (o := .cells #[.slice A0_0 l0_0.length c0_0, .slice A0_1 l0_1.length c0_1, .slice A0_2 l0_2.length c0_2] 68 (0, 0)) (bk BK251)) : gb251 ≠ gb272)); have n12_ := Aside0.mk ((by rw [hg]; exact Nat.ne_of_gt (blk_lt (g := gb251) (o := .cells #[.slice A0_0 l0_0.length c0_0, .slice A0_1 l0_1.length c0_1, .slice A0_2 l0_2.length c0_2] 68 (0, 0)) (bk BK251)) : gb272 ≠ gb251)); clear HO255 HO258 HO261 HO265 HO268 HO271 BK251 HB; have HO255 := n0_; have HO258 := n1_; have HO261 := n2_; have HO265 := n3_; have HO268 := n4_; have HO271 := n5_; have BK251 := n6_; have HB := n7_; have BK272 := n8_; have GW272 := n9_; have GE272 := n10_; have NB251_272 := n11_; have NB272_251 := n12_; clear n0_ n1_ n2_ n3_ n4_ n5_ n6_ n7_ n8_ n9_ n10_ n11_ n12_; clear hb hbox hg; obtain ⟨Ao69, co69, eo69⟩ := Kd.R_slice HO265.out; subst eo69; have hnb70 := NB272_251.out; have hnc70 := NB251_272.out; have hcz71_0 : w68.cell? ⟨gb272, 0, none⟩ = some (.slice none 0 0) := (blk_cell BK272.out 0).trans rfl; have hcz71_1 : w68.cell? ⟨gb272, 1, none⟩ = some (.slice none 0 0) := (blk_cell BK272.out 1).trans rfl; have hcz71_2 : w68.cell? ⟨gb272, 2, none⟩ = some (.slice none 0 0) := (blk_cell BK272.out 2).trans rfl; have hfz71_0 := blk_frozen BK272.out 0; have hfz71_1 := blk_frozen BK272.out 1; have hfz71_2 := blk_frozen BK272.out 2; obtain ⟨Ao72, co72, eo72⟩ := Kd.R_slice HO268.out; subst eo72; obtain ⟨Ao73, co73, eo73⟩ := Kd.R_slice HO271.out; subst eo73) | ((with_reducible refine gate_callee (f := 41) rfl ?_); refine goesL_ (some 18) rfl rfl Try.func41 (by kernel_rfl) rfl #[.agg #[.slice Ao69 t263.length co69, .slice Ao72 t266.length co72, .slice Ao73 t269.length co73]] rfl (by (try simp only [List.map_toArray, List.map_cons, List.map_nil]); first | done | rfl | (simp only [List.length_drop, List.length_take]; rfl)) ?_; (with_reducible refine (impl_WorkValid.calls k _ _ t263 _ _ t266 _ _ t269 t273 _ ?side1 ?side2 ?side3 ?side4 ?side5 ?side6 A10.out).mono ?_); (case side1 => refine (Kd.R_reads' (e := 4) (base := w.heap.size) (ok := fun k_ => ((some k_ ≠ (.slice Ao72 t266.length co72 : Value).ownBlock ∧ some k_ ≠ (.slice Ao62 t253.length co62 : Value).ownBlock) ∧ some k_ ≠ (.slice Ao63 t256.length co63 : Value).ownBlock)) (n := t263.length) (c := co69) ?_).2.2; exact (by (with_reducible repeat (first | apply Kd.R_alloc | apply Kd.R_drewN | apply Kd.R_drew)); exact (Kd.R_mono (Kd.R_far (p := ⟨gb272, 2, none⟩) (Kd.R_far (p := ⟨gb272, 1, none⟩) (Kd.R_far (p := ⟨gb272, 0, none⟩) (Kd.R_types HO265.out BK272.out (by decide)) (fun _ hk => by first | exact hk.2 | grind) (.slice Ao69 t263.length co69)) (fun _ hk => by first | exact hk.2 | grind) (.slice Ao72 t266.length co72)) (fun _ hk => by first | exact hk.2 | grind) (.slice Ao73 t269.length co73)) (fun _ h_ => h_.1)))); (case side2 => exact (Kd.R_reads' HO265.out).2.1); (case side3 => refine (Kd.R_reads' (e := 4) (base := w.heap.size) (ok := fun k_ => ((some k_ ≠ (.slice Ao69 t263.length co69 : Value).ownBlock ∧ some k_ ≠ (.slice Ao62 t253.length co62 : Value).ownBlock) ∧ some k_ ≠ (.slice Ao63 t256.length co63 : Value).ownBlock)) (n := t266.length) (c := co72) ?_).2.2; exact (by (with_reducible repeat (first | apply Kd.R_alloc | apply Kd.R_drewN | apply Kd.R_drew)); exact (Kd.R_mono (Kd.R_far (p := ⟨gb272, 2, none⟩) (Kd.R_far (p := ⟨gb272, 1, none⟩) (Kd.R_far (p := ⟨gb272, 0, none⟩) (Kd.R_types HO268.out BK272.out (by decide)) (fun _ hk => by first | exact hk.2 | grind) (.slice Ao69 t263.length co69)) (fun _ hk => by first | exact hk.2 | grind) (.slice Ao72 t266.length co72)) (fun _ hk => by first | exact hk.2 | grind) (.slice Ao73 t269.length co73)) (fun _ h_ => h_.1)))); (case side4 => exact (Kd.R_reads' HO268.out).2.1); (case side5 => refine (Kd.R_reads' (e := 112) (base := w.heap.size) (ok := fun k_ => (True ∧ some k_ ≠ (.slice Ao64 t259.length co64 : Value).ownBlock)) (n := t269.length) (c := co73) ?_).2.2; exact (by (with_reducible repeat (first | apply Kd.R_alloc | apply Kd.R_drewN | apply Kd.R_drew)); exact (Kd.R_mono (Kd.R_far (p := ⟨gb272, 2, none⟩) (Kd.R_far (p := ⟨gb272, 1, none⟩) (Kd.R_far (p := ⟨gb272, 0, none⟩) (Kd.R_types HO271.out BK272.out (by decide)) (fun _ hk => by first | exact hk.2 | grind) (.slice Ao69 t263.length co69)) (fun _ hk => by first | exact hk.2 | grind) (.slice Ao72 t266.length co72)) (fun _ hk => by first | exact hk.2 | grind) (.slice Ao73 t269.length co73)) (fun _ h_ => h_.1)))); (case side6 => exact (Kd.R_reads' HO271.out).2.1); rintro e w74 ⟨rfl, hb⟩; refine ⟨_, rfl, ?_⟩; have n0_ := Aside0.mk (Kd.R_below (by (with_reducible repeat (first | apply Kd.R_alloc | apply Kd.R_drewN | apply Kd.R_drew)); exact (Kd.R_mono (Kd.R_far (p := ⟨gb272, 2, none⟩) (Kd.R_far (p := ⟨gb272, 1, none⟩) (Kd.R_far (p := ⟨gb272, 0, none⟩) (Kd.R_types HO255.out BK272.out (by decide)) (fun _ hk => by first | exact hk.2 | grind) (.slice Ao69 t263.length co69)) (fun _ hk => by first | exact hk.2 | grind) (.slice Ao72 t266.length co72)) (fun _ hk => by first | exact hk.2 | grind) (.slice Ao73 t269.length co73)) (fun _ h_ => h_.1))) hb); have n1_ := Aside0.mk (Kd.R_below (by (with_reducible repeat (first | apply Kd.R_alloc | apply Kd.R_drewN | apply Kd.R_drew)); exact (Kd.R_mono (Kd.R_far (p := ⟨gb272, 2, none⟩) (Kd.R_far (p := ⟨gb272, 1, none⟩) (Kd.R_far (p := ⟨gb272, 0, none⟩) (Kd.R_types HO258.out BK272.out (by decide)) (fun _ hk => by first | exact hk.2 | grind) (.slice Ao69 t263.length co69)) (fun _ hk => by first | exact hk.2 | grind) (.slice Ao72 t266.length co72)) (fun _ hk => by first | exact hk.2 | grind) (.slice Ao73 t269.length co73)) (fun _ h_ => h_.1))) hb); have n2_ := Aside0.mk (Kd.R_below (by (with_reducible repeat (first | apply Kd.R_alloc | apply Kd.R_drewN | apply Kd.R_drew)); exact (Kd.R_mono (Kd.R_far (p := ⟨gb272, 2, none⟩) (Kd.R_far (p := ⟨gb272, 1, none⟩) (Kd.R_far (p := ⟨gb272, 0, none⟩) (Kd.R_types HO261.out BK272.out (by decide)) (fun _ hk => by first | exact hk.2 | grind) (.slice Ao69 t263.length co69)) (fun _ hk => by first | exact hk.2 | grind) (.slice Ao72 t266.length co72)) (fun _ hk => by first | exact hk.2 | grind) (.slice Ao73 t269.length co73)) (fun _ h_ => h_.1))) hb); have n3_ := Aside0.mk (Kd.R_below (by (with_reducible repeat (first | apply Kd.R_alloc | apply Kd.R_drewN | apply Kd.R_drew)); exact (Kd.R_mono (Kd.R_far (p := ⟨gb272, 2, none⟩) (Kd.R_far (p := ⟨gb272, 1, none⟩) (Kd.R_far (p := ⟨gb272, 0, none⟩) (Kd.R_types HO265.out BK272.out (by decide)) (fun _ hk => by first | exact hk.2 | grind) (.slice Ao69 t263.length co69)) (fun _ hk => by first | exact hk.2 | grind) (.slice Ao72 t266.length co72)) (fun _ hk => by first | exact hk.2 | grind) (.slice Ao73 t269.length co73)) (fun _ h_ => h_.1))) hb); have n4_ := Aside0.mk (Kd.R_below (by (with_reducible repeat (first | apply Kd.R_alloc | apply Kd.R_drewN | apply Kd.R_drew)); exact (Kd.R_mono (Kd.R_far (p := ⟨gb272, 2, none⟩) (Kd.R_far (p := ⟨gb272, 1, none⟩) (Kd.R_far (p := ⟨gb272, 0, none⟩) (Kd.R_types HO268.out BK272.out (by decide)) (fun _ hk => by first | exact hk.2 | grind) (.slice Ao69 t263.length co69)) (fun _ hk => by first | exact hk.2 | grind) (.slice Ao72 t266.length co72)) (fun _ hk => by first | exact hk.2 | grind) (.slice Ao73 t269.length co73)) (fun _ h_ => h_.1))) hb); have n5_ := Aside0.mk (Kd.R_below (by (with_reducible repeat (first | apply Kd.R_alloc | apply Kd.R_drewN | apply Kd.R_drew)); exact (Kd.R_mono (Kd.R_far (p := ⟨gb272, 2, none⟩) (Kd.R_far (p := ⟨gb272, 1, none⟩) (Kd.R_far (p := ⟨gb272, 0, none⟩) (Kd.R_types HO271.out BK272.out (by decide)) (fun _ hk => by first | exact hk.2 | grind) (.slice Ao69 t263.length co69)) (fun _ hk => by first | exact hk.2 | grind) (.slice Ao72 t266.length co72)) (fun _ hk => by first | exact hk.2 | grind) (.slice Ao73 t269.length co73)) (fun _ h_ => h_.1))) hb); have n6_ := Aside0.mk (blk_below (g := gb251) (o := .cells #[.slice A0_0 l0_0.length c0_0, .slice A0_1 l0_1.length c0_1, .slice A0_2 l0_2.length c0_2] 68 (0, 0)) (by (with_reducible repeat (first | refine blk_drewN ?_ _ | refine blk_drew ?_ | refine blk_alloc ?_ _)); refine blk_far ?_ NB251_272.out _; (with_reducible repeat (first | refine blk_drewN ?_ _ | refine blk_drew ?_ | refine blk_alloc ?_ _)); refine blk_far ?_ NB251_272.out _; (with_reducible repeat (first | refine blk_drewN ?_ _ | refine blk_drew ?_ | refine blk_alloc ?_ _)); refine blk_far ?_ NB251_272.out _; (with_reducible repeat (first | refine blk_drewN ?_ _ | refine blk_drew ?_ | refine blk_alloc ?_ _)); exact BK251.out) hb); have n7_ := Aside0.mk (blk_below (g := gb272) (o := .cells #[.slice Ao69 t263.length co69, .slice Ao72 t266.length co72, .slice Ao73 t269.length co73] 73 (0, 0)) (by (with_reducible repeat (first | refine blk_drewN ?_ _ | refine blk_drew ?_ | refine blk_alloc ?_ _)); refine blk_put (cs := #[.slice Ao69 t263.length co69, .slice Ao72 t266.length co72, .slice none 0 0]) ?_ 2 _ rfl; (with_reducible repeat (first | refine blk_drewN ?_ _ | refine blk_drew ?_ | refine blk_alloc ?_ _)); refine blk_put (cs := #[.slice Ao69 t263.length co69, .slice none 0 0, .slice none 0 0]) ?_ 1 _ rfl; (with_reducible repeat (first | refine blk_drewN ?_ _ | refine blk_drew ?_ | refine blk_alloc ?_ _)); refine blk_put (cs := #[.slice none 0 0, .slice none 0 0, .slice none 0 0]) ?_ 0 _ rfl; (with_reducible repeat (first | refine blk_drewN ?_ _ | refine blk_drew ?_ | refine blk_alloc ?_ _)); exact BK272.out) hb); have n8_ := Aside0.mk (below_step bw hb); clear HO255 HO258 HO261 HO265 HO268 HO271 BK251 BK272 HB; have HO255 := n0_; have HO258 := n1_; have HO261 := n2_; have HO265 := n3_; have HO268 := n4_; have HO271 := n5_; have BK251 := n6_; have BK272 := n7_; have HB := n8_; clear n0_ n1_ n2_ n3_ n4_ n5_ n6_ n7_ n8_; (try clear hb); (try clear hb2); (try clear hk); (try clear hi)))
    have n0_ := Aside0.mk (Kd.R_drew HO255.out)
    have n1_ := Aside0.mk (Kd.R_drew HO258.out)
    have n2_ := Aside0.mk (Kd.R_drew HO261.out)
    have n3_ := Aside0.mk (Kd.R_drew HO265.out)
    have n4_ := Aside0.mk (Kd.R_drew HO268.out)
    have n5_ := Aside0.mk (Kd.R_drew HO271.out)
    have n6_ := Aside0.mk (blk_drew BK251.out)
    have n7_ := Aside0.mk (blk_drew BK272.out)
    have n8_ := Aside0.mk (below_drew1 HB.out)
    clear HO255
    clear HO258
    clear HO261
    clear HO265
    clear HO268
    clear HO271
    clear BK251
    clear BK272
    clear HB
    have HO255 := n0_
    have HO258 := n1_
    have HO261 := n2_
    have HO265 := n3_
    have HO268 := n4_
    have HO271 := n5_
    have BK251 := n6_
    have BK272 := n7_
    have HB := n8_
    clear n0_ n1_ n2_ n3_ n4_ n5_ n6_ n7_ n8_
    refine start_ (n := 5) (S := fun w' => w'.cell? ⟨gb272, 0, none⟩ = some (.slice Ao69 t263.length co69) ∧ w'.cell? ⟨gb272, 1, none⟩ = some (.slice Ao72 t266.length co72) ∧ w'.cell? ⟨gb272, 2, none⟩ = some (.slice Ao73 t269.length co73) ∧ w'.cell? ⟨gb251, 0, none⟩ = some (.slice A0_0 l0_0.length c0_0) ∧ w'.cell? ⟨gb251, 1, none⟩ = some (.slice A0_1 l0_1.length c0_1) ∧ w'.cell? ⟨gb251, 2, none⟩ = some (.slice A0_2 l0_2.length c0_2)) (ds := []) #[false, false, false, false, false] (by kernel_rfl) rfl rfl ⟨(blk_cell BK272.out 0).trans rfl, (blk_cell BK272.out 1).trans rfl, (blk_cell BK272.out 2).trans rfl, (blk_cell BK251.out 0).trans rfl, (blk_cell BK251.out 1).trans rfl, (blk_cell BK251.out 2).trans rfl⟩ (fun hHeld => ?_)
    generalize w74.drew = w75 at HO255 HO258 HO261 HO265 HO268 HO271 BK251 BK272 HB hHeld ⊢
    refine take_ (i := 0) (N := some 22) (v := ?_) (a' := ?_) #[true, false, false, false, false] rfl rfl (by kernel_rfl) (fun _ _ _ h => h) (Or.inl ⟨by rfl, ?_⟩) hHeld ?_ ?_
    rotate_left
    ·rintro w' ⟨s0, s1, s2, s3, s4, s5⟩
     go_simp
     with_reducible rfl
    rotate_left
    ·simp only [Act.put, List.setIfInBounds_toArray, List.set_cons_zero, List.set_cons_succ, i64_w, i32_w]
     rfl
    refine take_ (i := 1) (N := some 23) (v := ?_) (a' := ?_) #[true, true, false, false, false] rfl rfl (by kernel_rfl) (fun _ _ _ h => h) (Or.inl ⟨by rfl, ?_⟩) hHeld ?_ ?_
    rotate_left
    ·rintro w' ⟨s0, s1, s2, s3, s4, s5⟩
     go_simp
     with_reducible rfl
    rotate_left
    ·simp only [Act.put, List.setIfInBounds_toArray, List.set_cons_zero, List.set_cons_succ, i64_w, i32_w]
     rfl
    refine one_ (i := 2) (N := some 24) #[true, true, true, false, false] rfl rfl (by kernel_rfl) (by decide) (fun K hK => ?_)
    refine goes_ Try.func40 (by kernel_rfl) rfl #[.agg #[.slice A0_0 l0_0.length c0_0, .slice A0_1 l0_1.length c0_1, .slice A0_2 l0_2.length c0_2]] (by rfl) rfl rfl (by (try simp only [List.map_toArray, List.map_cons, List.map_nil]); first | done | rfl | (simp only [List.length_drop, List.length_take]; rfl)) ?_
    with_reducible refine (laws_toWork.calls k _ _ l0_0 _ _ l0_1 _ _ l0_2 t274 t277 t280 _ ?side1 ?side2 ?side3 ?side4 ?side5 ?side6 A30.out).mono ?_
    (case side1 => exact cb HR0_0)
    (case side2 => exact HC0_0.out)
    (case side3 => exact cb HR0_1)
    (case side4 => exact HC0_1.out)
    (case side5 => exact cb HR0_2)
    (case side6 => exact HC0_2.out)
    rintro e w76 ⟨v275, v278, v281, rfl, ho0, ho1, ho2, hb⟩
    refine ⟨_, rfl, ?_⟩
    have n0_ := Aside0.mk (Kd.R_mono (Kd.R_told (Kd.R_told (Kd.R_old (rk HO255) hb) (Kd.R_base ho0)) (Kd.R_base ho1)) (fun _ h_ => h_.1))
    have n1_ := Aside0.mk (Kd.R_mono (Kd.R_told (Kd.R_told (Kd.R_old (rk HO258) hb) (Kd.R_base ho0)) (Kd.R_base ho1)) (fun _ h_ => h_.1))
    have n2_ := Aside0.mk (Kd.R_elder' (rk HO261) (Kd.R_base ho2) hb)
    have n3_ := Aside0.mk (Kd.R_mono (Kd.R_told (Kd.R_told (Kd.R_old (rk HO265) hb) (Kd.R_base ho0)) (Kd.R_base ho1)) (fun _ h_ => h_.1))
    have n4_ := Aside0.mk (Kd.R_mono (Kd.R_told (Kd.R_told (Kd.R_old (rk HO268) hb) (Kd.R_base ho0)) (Kd.R_base ho1)) (fun _ h_ => h_.1))
    have n5_ := Aside0.mk (Kd.R_elder' (rk HO271) (Kd.R_base ho2) hb)
    have n6_ := Aside0.mk (Kd.R_lower (Kd.R_new' (Kd.R_new' (Kd.R_new' (Kd.R_new' ho0 (Kd.R_lt (rk HO255))) (Kd.R_lt (rk HO258))) (Kd.R_lt (rk HO265))) (Kd.R_lt (rk HO268))) (below_size bw))
    have n7_ := Aside0.mk (Kd.R_lower (Kd.R_new' (Kd.R_new' (Kd.R_new' (Kd.R_new' ho1 (Kd.R_lt (rk HO255))) (Kd.R_lt (rk HO258))) (Kd.R_lt (rk HO265))) (Kd.R_lt (rk HO268))) (below_size bw))
    have n8_ := Aside0.mk (Kd.R_lower (Kd.R_new' (Kd.R_new' ho2 (Kd.R_lt (rk HO261))) (Kd.R_lt (rk HO271))) (below_size bw))
    have n9_ := bkB BK251 hb
    have n10_ := bkB BK272 hb
    have n11_ := Aside0.mk (below_step bw hb)
    clear HO255
    clear HO258
    clear HO261
    clear HO265
    clear HO268
    clear HO271
    clear BK251
    clear BK272
    clear HB
    have HO255 := n0_
    have HO258 := n1_
    have HO261 := n2_
    have HO265 := n3_
    have HO268 := n4_
    have HO271 := n5_
    have HO276 := n6_
    have HO279 := n7_
    have HO282 := n8_
    have BK251 := n9_
    have BK272 := n10_
    have HB := n11_
    clear n0_ n1_ n2_ n3_ n4_ n5_ n6_ n7_ n8_ n9_ n10_ n11_
    (try clear hb)
    (try clear hb2)
    (try clear hk)
    (try clear hi)
    (try clear ho0)
    (try clear ho1)
    (try clear ho2)
    obtain ⟨Ao77, co77, eo77⟩ := Kd.R_slice HO276.out
    (first | subst eo77 | (injection eo77 with f1_ f2_ f3_; have f4_ := f1_.symm; have f5_ := f3_.symm; clear f1_ f2_ f3_; subst f4_; subst f5_))
    obtain ⟨Ao78, co78, eo78⟩ := Kd.R_slice HO279.out
    (first | subst eo78 | (injection eo78 with f1_ f2_ f3_; have f4_ := f1_.symm; have f5_ := f3_.symm; clear f1_ f2_ f3_; subst f4_; subst f5_))
    obtain ⟨Ao79, co79, eo79⟩ := Kd.R_slice HO282.out
    (first | subst eo79 | (injection eo79 with f1_ f2_ f3_; have f4_ := f1_.symm; have f5_ := f3_.symm; clear f1_ f2_ f3_; subst f4_; subst f5_))
    refine hK.out _ _ ⟨(blk_cell BK272.out 0).trans rfl, (blk_cell BK272.out 1).trans rfl, (blk_cell BK272.out 2).trans rfl, (blk_cell BK251.out 0).trans rfl, (blk_cell BK251.out 1).trans rfl, (blk_cell BK251.out 2).trans rfl⟩ (fun hHeld => ?_)
    clear hK K
    refine norm_ (a' := ?_) ?_ ?_
    rotate_left
    ·show Act.put _ (some 24) _ = _
     simp only [Act.put, List.setIfInBounds_toArray, List.set_cons_zero, List.set_cons_succ, i64_w, i32_w]
     rfl
    refine one_ (i := 3) (N := some 25) #[true, true, true, true, false] rfl rfl (by kernel_rfl) (by decide) (fun K hK => ?_)
    refine goes_ Try.func42 (by kernel_rfl) rfl #[.agg #[.slice Ao69 t263.length co69, .slice Ao72 t266.length co72, .slice Ao73 t269.length co73], .agg #[.slice Ao77 t274.length co77, .slice Ao78 t277.length co78, .slice Ao79 t280.length co79]] (by rfl) rfl rfl (by (try simp only [List.map_toArray, List.map_cons, List.map_nil]); first | done | rfl | (simp only [List.length_drop, List.length_take]; rfl)) ?_
    with_reducible refine (laws_eqWork.calls k _ _ t263 _ _ t266 _ _ t269 _ _ t274 _ _ t277 _ _ t280 false _ ?side1 ?side2 ?side3 ?side4 ?side5 ?side6 ?side7 ?side8 ?side9 ?side10 ?side11 ?side12 A31.out).mono ?_
    (case side1 => repeat (first | exact (Kd.R_reads' HO265.out).2.2 | (with_reducible refine Kd.C_alloc ?_ _) | (with_reducible refine Kd.C_drewN ?_ _) | (with_reducible refine Kd.C_drew ?_)))
    (case side2 => exact (Kd.R_reads' HO265.out).2.1)
    (case side3 => repeat (first | exact (Kd.R_reads' HO268.out).2.2 | (with_reducible refine Kd.C_alloc ?_ _) | (with_reducible refine Kd.C_drewN ?_ _) | (with_reducible refine Kd.C_drew ?_)))
    (case side4 => exact (Kd.R_reads' HO268.out).2.1)
    (case side5 => repeat (first | exact (Kd.R_reads' HO271.out).2.2 | (with_reducible refine Kd.C_alloc ?_ _) | (with_reducible refine Kd.C_drewN ?_ _) | (with_reducible refine Kd.C_drew ?_)))
    (case side6 => exact (Kd.R_reads' HO271.out).2.1)
    (case side7 => repeat (first | exact (Kd.R_reads' HO276.out).2.2 | (with_reducible refine Kd.C_alloc ?_ _) | (with_reducible refine Kd.C_drewN ?_ _) | (with_reducible refine Kd.C_drew ?_)))
    (case side8 => exact (Kd.R_reads' HO276.out).2.1)
    (case side9 => repeat (first | exact (Kd.R_reads' HO279.out).2.2 | (with_reducible refine Kd.C_alloc ?_ _) | (with_reducible refine Kd.C_drewN ?_ _) | (with_reducible refine Kd.C_drew ?_)))
    (case side10 => exact (Kd.R_reads' HO279.out).2.1)
    (case side11 => repeat (first | exact (Kd.R_reads' HO282.out).2.2 | (with_reducible refine Kd.C_alloc ?_ _) | (with_reducible refine Kd.C_drewN ?_ _) | (with_reducible refine Kd.C_drew ?_)))
    (case side12 => exact (Kd.R_reads' HO282.out).2.1)
    rintro e w80 ⟨rfl, hb⟩
    refine ⟨_, rfl, ?_⟩
    have n0_ := rB HO255 hb
    have n1_ := rB HO258 hb
    have n2_ := rB HO261 hb
    have n3_ := rB HO265 hb
    have n4_ := rB HO268 hb
    have n5_ := rB HO271 hb
    have n6_ := rB HO276 hb
    have n7_ := rB HO279 hb
    have n8_ := rB HO282 hb
    have n9_ := bkB BK251 hb
    have n10_ := bkB BK272 hb
    have n11_ := Aside0.mk (below_step bw hb)
    clear HO255
    clear HO258
    clear HO261
    clear HO265
    clear HO268
    clear HO271
    clear HO276
    clear HO279
    clear HO282
    clear BK251
    clear BK272
    clear HB
    have HO255 := n0_
    have HO258 := n1_
    have HO261 := n2_
    have HO265 := n3_
    have HO268 := n4_
    have HO271 := n5_
    have HO276 := n6_
    have HO279 := n7_
    have HO282 := n8_
    have BK251 := n9_
    have BK272 := n10_
    have HB := n11_
    clear n0_ n1_ n2_ n3_ n4_ n5_ n6_ n7_ n8_ n9_ n10_ n11_
    (try clear hb)
    (try clear hb2)
    (try clear hk)
    (try clear hi)
    refine hK.out _ _ ⟨(blk_cell BK272.out 0).trans rfl, (blk_cell BK272.out 1).trans rfl, (blk_cell BK272.out 2).trans rfl, (blk_cell BK251.out 0).trans rfl, (blk_cell BK251.out 1).trans rfl, (blk_cell BK251.out 2).trans rfl⟩ (fun hHeld => ?_)
    clear hK K
    refine norm_ (a' := ?_) ?_ ?_
    rotate_left
    ·show Act.put _ (some 25) _ = _
     simp only [Act.put, List.setIfInBounds_toArray, List.set_cons_zero, List.set_cons_succ, i64_w, i32_w]
     rfl
    refine pure_ (i := 4) (N := some 26) (v := ?_) (a' := ?_) #[true, true, true, true, true] rfl rfl (by kernel_rfl) (fun _ _ _ h => h) (Or.inl ⟨by rfl, ?_⟩) ?_ ?_
    rotate_left
    ·intro w'
     go_simp
     with_reducible rfl
    rotate_left
    ·simp only [Act.put, List.setIfInBounds_toArray, List.set_cons_zero, List.set_cons_succ, i64_w, i32_w]
     rfl
    refine done_ (by kernel_rfl) ?_
    try go_wp2
    go_ret
    exact ⟨by first | rfl | (simp [errW_none, errW_some] <;> rfl) | (simp [*, errW_none, errW_some] <;> rfl), bw⟩

/-! ### laws_markIntS: function 26 -/
def laws_markIntS.l0 : Nat → List Int → Int → Int → Option (Int × List Int)
 | 0, _, _, _ => none
 | k + 1, x0, x1, x5 => if x5 < (x0.length : Int) then (if 0 ≤ x5 then (laws_markIntS.l0 k (x0.set (x5 : Int).toNat x1) (wrap64 (x1 + 1)) (wrap64 (x5 + 1))) else (none)) else (some (x1, x0))
def laws_markIntS.f (k : Nat) (l0 : List Int) (a1 : Int) : Option (Int × List Int) := laws_markIntS.l0 k l0 a1 0
theorem laws_markIntS.mono_l : ∀ k, (∀ y0 y1 y2, LeO (laws_markIntS.l0 k y0 y1 y2) (laws_markIntS.l0 (k + 1) y0 y1 y2))
 | 0 => fun _ _ _ r h => by simp [laws_markIntS.l0] at h
 | k + 1 => by
  have ih0 := laws_markIntS.mono_l k
  ·intro y0 y1 y2
   unfold laws_markIntS.l0
   repeat' first
   | (with_reducible exact ih0 _ _ _)
   | (with_reducible exact LeO.refl _)
   | (with_reducible exact LeO.none _)
   | (with_reducible refine LeO.ite ?_ ?_)
   | (with_reducible refine LeO.bind ?_ (fun _ => ?_))
   | exact ih0 _ _ _
   | exact LeO.none _
   | refine LeO.ite ?_ ?_
   | refine LeO.bind ?_ (fun _ => ?_)
theorem laws_markIntS.mono : ∀ a0 a1 k, LeO (laws_markIntS.f k a0 a1) (laws_markIntS.f (k + 1) a0 a1) := by
 intro a0 a1 k
 have ih0 := laws_markIntS.mono_l k
 unfold laws_markIntS.f
 repeat' first
   | (with_reducible exact ih0 _ _ _)
   | (with_reducible exact LeO.refl _)
   | (with_reducible exact LeO.none _)
   | (with_reducible refine LeO.ite ?_ ?_)
   | (with_reducible refine LeO.bind ?_ (fun _ => ?_))
   | exact ih0 _ _ _
   | exact LeO.none _
   | refine LeO.ite ?_ ?_
   | refine LeO.bind ?_ (fun _ => ?_)
set_option maxHeartbeats 8000000 in
set_option maxRecDepth 100000 in
theorem laws_markIntS.calls (k : Nat) (P0_ : Nat → Prop) (u9000_ : Value) (l0 : List Int) (a1 : Int) (r1 : Int) (r2 : List Int) (w0 w : World) (hB : Below w0.heap.size w0 w) (ho0 : Kd.R (Kd.int .i64) 3 w w0.heap.size P0_ u9000_ l0) (h : laws_markIntS.f k l0 a1 = some (r1, r2)) :
  Calls Try.prog 26 #[u9000_, .int .i64 a1] w fun e w' => e = .returned (.int .i64 r1) ∧ Kd.R (Kd.int .i64) 3 w' w0.heap.size (fun k_ => (P0_ k_ ∨ w.heap.size ≤ k_)) u9000_ r2 ∧ Below w0.heap.size w0 w' ∧ Kept w w' (fun k_ => P0_ k_) := by
 have HO0 := Aside0.mk (show Kd.R (Kd.int .i64) 3 w w0.heap.size (fun k_ => (P0_ k_ ∨ w.heap.size ≤ k_)) u9000_ l0 from Kd.R_mono ho0 (fun k_ hk => (.inl hk)))
 have HK := Aside0.mk (Kept.refl w (fun k_ => P0_ k_))
 have HW0 := Aside0.mk hB.size
 have HB := Aside0.mk hB
 clear hB
 have H : (laws_markIntS.l0 k l0 a1 0) = some (r1, r2) := h
 clear h
 have H' := Aside0.mk H
 clear H
 go_enter Try.func26, Try.ntmps26
 go_wp2
 go_loopg [1, 5] k (fun kq v1 v5 w' => ∃ (x0_1 : List Int) (x1_1 : Int) (x5_1 : Int), v1 = .int .i64 x1_1 ∧ v5 = .int .i64 x5_1 ∧ Aside0 (laws_markIntS.l0 kq x0_1 x1_1 x5_1 = some (r1, r2)) ∧ Aside0 (kq ≤ k) ∧ Aside0 (Kd.R (Kd.int .i64) 3 w' w0.heap.size (fun k_ => (P0_ k_ ∨ w.heap.size ≤ k_)) u9000_ x0_1) ∧ Aside0 (Kept w w' (fun k_ => P0_ k_)) ∧ Aside0 (Below w0.heap.size w0 w'))
 case atStart => exact ⟨(l0), (a1), (0), (by first | rfl | (simp; done) | (simp [*]; done)), (by first | rfl | (simp; done) | (simp [*]; done)), H', ⟨Nat.le_refl _⟩, ⟨rk HO0⟩, ⟨by repeat (first | (with_reducible first | exact HK.out | apply Kept.alloc | apply Kept.drewN | apply Kept.drew) | exact HK.out)⟩, ⟨bw⟩⟩
 case round =>
  clear H'
  try clear c2
  try clear p2
  obtain ⟨x0_1, x1_1, x5_1, rfl, rfl, HA, HK1, HO_0, HK, HB⟩ := hrel
  cases gk with
  | zero => exact absurd HA.out (by simp [laws_markIntS.l0])
  | succ k1 =>
   have H := HA.out
   clear HA
   simp only [laws_markIntS.l0] at H
   by_cases c3 : x5_1 < (x0_1.length : Int)
   ·rw [if_pos c3] at H
    have c3b0 : decide (x5_1 < (x0_1.length : Int)) = true := decide_eq_true c3
    clear c3
    by_cases c4 : 0 ≤ x5_1
    ·rw [if_pos c4] at H
     have c4b0 : decide (0 ≤ x5_1) = true := decide_eq_true c4
     clear c4
     obtain ⟨y284, hy284⟩ : ∃ y_ : List Int, y_ = (x0_1.set (x5_1 : Int).toNat x1_1) := ⟨_, rfl⟩
     replace H : (laws_markIntS.l0 k1 y284 (wrap64 (x1_1 + 1)) (wrap64 (x5_1 + 1))) = some (r1, r2) := by first | (rw [hy284]; with_reducible exact H) | (have H2_ := (Option.bind_some _ _).symm.trans H; rw [hy284]; with_reducible exact H2_) | (have H2_ := (Option.bind_some _ _).symm.trans H; with_reducible exact H2_) | with_reducible exact H | (rw [hy284]; exact H) | exact H
     have Ny284 := Aside0.mk hy284
     clear hy284
     have H' := Aside0.mk H
     clear H
     obtain ⟨Ao6, co6, eo6⟩ := Kd.R_slice HO_0.out
     subst eo6
     have p5 : 0 ≤ (x5_1 : Int) := of_decide_eq_true (by first | (with_reducible assumption) | assumption)
     have q5 : (x5_1 : Int) < ((x0_1.length : Int) : Int) := of_decide_eq_true (by first | (with_reducible assumption) | assumption)
     obtain ⟨go5, co5, eo5, gb5, gl5, cl5, HG5⟩ := Kd.R_form HO_0.out (by omega)
     (first | cases eo5 | (injection eo5 with ea_ en_ ec_; (first | subst ea_ | (injection ea_ with ea_; subst ea_)); subst ec_; clear en_))
     have GB5 := Aside0.mk gb5
     have GG5 := Aside0.mk HG5
     clear gb5 gl5 HG5
     have HMgo5 := Aside0.mk (show (P0_ go5 ∨ w.heap.size ≤ go5) from (HO_0.out.1 _ rfl))
     obtain ⟨hx5_0, hf5_0⟩ := Kd.R_celln 0 HO_0.out (x5_1 : Int) p5 q5
     replace p5 := eq_true p5
     replace q5 := eq_true q5
     have HP7 := Kd.R_putg HO_0.out (x5_1 : Int) x1_1
     go_wp2_with (first | ((with_reducible refine gate_store (t := 3) (p := 15) rfl ?_); refine store_event (t := 3) (p := 15) (v := ?vo_w8) (w1 := (wr.setCell ⟨go5, (x5_1 : Int).toNat, none⟩ (.int .i64 x1_1))) ?hg ?ho ?hn ?hr ?_; (case ho => rfl); (case hg => rfl); (case hn => rfl); (case hr => first | (go_simp; done) | (go_simp; rfl)); intro w8 hw; have hg : wr.grownBy w8 (some go5) := (by rw [hw]; exact HP7.2); have hp_ : Kd.R (Kd.int .i64) 3 w8 w0.heap.size (fun k_ => (P0_ k_ ∨ w.heap.size ≤ k_)) (.slice (some ⟨go5, 0, none⟩) x0_1.length co6) y284 := (by rw [hw, Ny284.out]; exact HP7.1); clear HP7; have n0_ := Aside0.mk (hp_); have n1_ := Aside0.mk ((by rw [hw]; exact below_set (HB.out) GB5.out : Below w0.heap.size w0 w8)); have n2_ := Aside0.mk (Kept.of_grown (S := (fun k_ => P0_ k_)) hg (by repeat (first | (with_reducible first | exact HK.out | apply Kept.alloc | apply Kept.drewN | apply Kept.drew) | exact HK.out)) (fun k_ e_ => (HO_0.out.1 k_ e_))); clear HO_0 HB HK; have HO_0 := n0_; have HB := n1_; have HK := n2_; clear n0_ n1_ n2_; clear hg hw hp_))
     go_roundg k1
     case measure => have := HK1.out; omega
     case rel => exact ⟨(y284), (wrap64 (x1_1 + 1)), (wrap64 (x5_1 + 1)), (by first | rfl | (simp; done) | (simp [*]; done)), (by first | rfl | (simp; done) | (simp [*]; done)), H', ⟨by have := HK1.out; omega⟩, ⟨rk HO_0⟩, ⟨by repeat (first | (with_reducible first | exact HK.out | apply Kept.alloc | apply Kept.drewN | apply Kept.drew) | exact HK.out)⟩, ⟨bw⟩⟩
    ·rw [if_neg c4] at H
     exact absurd H (by simp)
   ·rw [if_neg c3] at H
    have c3b0 : decide (x5_1 < (x0_1.length : Int)) = false := decide_eq_false c3
    clear c3
    simp only [Option.some.injEq, Prod.mk.injEq] at H
    obtain ⟨rfl, rfl⟩ := H
    obtain ⟨Ao9, co9, eo9⟩ := Kd.R_slice HO_0.out
    subst eo9
    go_wp2
    go_ret
    exact ⟨by first | rfl | (simp [errW_none, errW_some] <;> rfl) | (simp [*, errW_none, errW_some] <;> rfl), rk HO_0, bw, by repeat (first | (with_reducible first | exact HK.out | apply Kept.alloc | apply Kept.drewN | apply Kept.drew) | exact HK.out)⟩

/-! ### laws_heldIntS: function 45 -/
def laws_heldIntS.l0 : Nat → List Int → Int → Int → Option (Int)
 | 0, _, _, _ => none
 | k + 1, x0, x1, x5 => if x5 < (x0.length : Int) then (if 0 ≤ x5 then (if (rd x0 x5) = x1 then (laws_heldIntS.l0 k x0 (wrap64 (x1 + 1)) (wrap64 (x5 + 1))) else (some (-1))) else (none)) else (some x1)
def laws_heldIntS.f (k : Nat) (l0 : List Int) (a1 : Int) : Option (Int) := laws_heldIntS.l0 k l0 a1 0
theorem laws_heldIntS.mono_l : ∀ k, (∀ y0 y1 y2, LeO (laws_heldIntS.l0 k y0 y1 y2) (laws_heldIntS.l0 (k + 1) y0 y1 y2))
 | 0 => fun _ _ _ r h => by simp [laws_heldIntS.l0] at h
 | k + 1 => by
  have ih0 := laws_heldIntS.mono_l k
  ·intro y0 y1 y2
   unfold laws_heldIntS.l0
   repeat' first
   | (with_reducible exact ih0 _ _ _)
   | (with_reducible exact LeO.refl _)
   | (with_reducible exact LeO.none _)
   | (with_reducible refine LeO.ite ?_ ?_)
   | (with_reducible refine LeO.bind ?_ (fun _ => ?_))
   | exact ih0 _ _ _
   | exact LeO.none _
   | refine LeO.ite ?_ ?_
   | refine LeO.bind ?_ (fun _ => ?_)
theorem laws_heldIntS.mono : ∀ a0 a1 k, LeO (laws_heldIntS.f k a0 a1) (laws_heldIntS.f (k + 1) a0 a1) := by
 intro a0 a1 k
 have ih0 := laws_heldIntS.mono_l k
 unfold laws_heldIntS.f
 repeat' first
   | (with_reducible exact ih0 _ _ _)
   | (with_reducible exact LeO.refl _)
   | (with_reducible exact LeO.none _)
   | (with_reducible refine LeO.ite ?_ ?_)
   | (with_reducible refine LeO.bind ?_ (fun _ => ?_))
   | exact ih0 _ _ _
   | exact LeO.none _
   | refine LeO.ite ?_ ?_
   | refine LeO.bind ?_ (fun _ => ?_)
set_option maxHeartbeats 8000000 in
set_option maxRecDepth 100000 in
theorem laws_heldIntS.calls (k : Nat) (A0 : Option Addr) (c0 : Nat) (l0 : List Int) (a1 : Int) (r : Int) (w : World) (hr0 : Kd.C (Kd.int .i64) w A0 l0.length l0) (hc0 : l0.length ≤ c0) (h : laws_heldIntS.f k l0 a1 = some r) :
  Calls Try.prog 45 #[.slice A0 l0.length c0, .int .i64 a1] w fun e w' => e = .returned (.int .i64 r) ∧ Drawn0 w w' := by
 have HR0 := Aside0.mk hr0
 have HC0 := Aside0.mk hc0
 clear hr0 hc0
 have H : (laws_heldIntS.l0 k l0 a1 0) = some r := h
 clear h
 have H' := Aside0.mk H
 clear H
 go_enter Try.func45, Try.ntmps45
 go_wp2
 go_loopg [1, 5] k (fun kq v1 v5 w' => ∃ (x1_1 : Int) (x5_1 : Int), v1 = .int .i64 x1_1 ∧ v5 = .int .i64 x5_1 ∧ Aside0 (laws_heldIntS.l0 kq l0 x1_1 x5_1 = some r) ∧ Aside0 (kq ≤ k) ∧ Drawn0 w w')
 case atStart => exact ⟨(a1), (0), (by first | rfl | (simp; done) | (simp [*]; done)), (by first | rfl | (simp; done) | (simp [*]; done)), H', ⟨Nat.le_refl _⟩, by repeat (first | exact Drawn0.refl _ | apply Drawn0.step)⟩
 case round =>
  clear H'
  try clear p2
  obtain ⟨x1_1, x5_1, rfl, rfl, HA, HK1, ⟨m1, rfl⟩⟩ := hrel
  cases gk with
  | zero => exact absurd HA.out (by simp [laws_heldIntS.l0])
  | succ k1 =>
   have H := HA.out
   clear HA
   simp only [laws_heldIntS.l0] at H
   by_cases c3 : x5_1 < (l0.length : Int)
   ·rw [if_pos c3] at H
    have c3b0 : decide (x5_1 < (l0.length : Int)) = true := decide_eq_true c3
    clear c3
    by_cases c4 : 0 ≤ x5_1
    ·rw [if_pos c4] at H
     have c4b0 : decide (0 ≤ x5_1) = true := decide_eq_true c4
     clear c4
     by_cases c5 : (rd l0 x5_1) = x1_1
     ·rw [if_pos c5] at H
      have c5b0 : ((rd l0 x5_1) == x1_1) = true := beq_iff_eq.mpr c5
      have c5b1 : ((rd l0 x5_1) != x1_1) = false := bne_eq_false_iff_eq.mpr c5
      clear c5
      have H' := Aside0.mk H
      clear H
      have p285 : 0 ≤ (x5_1 : Int) := of_decide_eq_true (by first | (with_reducible assumption) | assumption)
      have q285 : x5_1 < (l0.length : Int) := of_decide_eq_true (by first | (with_reducible assumption) | assumption)
      obtain ⟨ad285, e285, hx285_0⟩ := Kd.at_int HR0.out x5_1 p285 q285
      cases e285
      replace p285 := eq_true p285
      replace q285 := eq_true q285
      go_wp2
      go_roundg k1
      case measure => have := HK1.out; omega
      case rel => exact ⟨(wrap64 (x1_1 + 1)), (wrap64 (x5_1 + 1)), (by first | rfl | (simp; done) | (simp [*]; done)), (by first | rfl | (simp; done) | (simp [*]; done)), H', ⟨by have := HK1.out; omega⟩, by repeat (first | exact Drawn0.refl _ | apply Drawn0.step)⟩
     ·rw [if_neg c5] at H
      have c5b0 : ((rd l0 x5_1) == x1_1) = false := beq_eq_false_iff_ne.mpr c5
      have c5b1 : ((rd l0 x5_1) != x1_1) = true := bne_iff_ne.mpr c5
      obtain rfl := Option.some.inj H
      have p285 : 0 ≤ (x5_1 : Int) := of_decide_eq_true (by first | (with_reducible assumption) | assumption)
      have q285 : x5_1 < (l0.length : Int) := of_decide_eq_true (by first | (with_reducible assumption) | assumption)
      obtain ⟨ad285, e285, hx285_0⟩ := Kd.at_int HR0.out x5_1 p285 q285
      cases e285
      replace p285 := eq_true p285
      replace q285 := eq_true q285
      go_wp2
      go_ret
      exact ⟨by first | rfl | (simp; done) | (simp [*]; done), by repeat (first | exact Drawn0.refl _ | apply Drawn0.step)⟩
    ·rw [if_neg c4] at H
     exact absurd H (by simp)
   ·rw [if_neg c3] at H
    have c3b0 : decide (x5_1 < (l0.length : Int)) = false := decide_eq_false c3
    clear c3
    obtain rfl := Option.some.inj H
    go_wp2
    go_ret
    exact ⟨by first | rfl | (simp; done) | (simp [*]; done), by repeat (first | exact Drawn0.refl _ | apply Drawn0.step)⟩

end Go.Proofs.Ytgoiihfojhpcmaa.G
