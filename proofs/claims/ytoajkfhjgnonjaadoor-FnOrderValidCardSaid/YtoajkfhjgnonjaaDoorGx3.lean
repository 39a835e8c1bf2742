-- Printed by wip/gen.py of this session's repo, over the kit's print.py. Not trusted: Lean checks it.
import Derived.Test.YtoajkfhjgnonjaaDoorGx0
import Derived.Test.YtoajkfhjgnonjaaDoorSq
import Derived.Test.YtoajkfhjgnonjaaDoorGx1
import Derived.Test.YtoajkfhjgnonjaaDoorGx2
namespace Go.Proofs.YtoajkfhjgnonjaaDoor.G
open Go.RowKit Go.Proofs.YtoajkfhjgnonjaaDoorW.PrintWords Go.Proofs.YtoajkfhjgnonjaaDoorW.PrintLast Go.Proofs.YtoajkfhjgnonjaaDoorW.PrintMore Go.Proofs.YtoajkfhjgnonjaaDoor.Sq
attribute [local go_sem] max2_int min2_int max_two min_two max_three min_three max_four min_four   -- for this text's walks alone
set_option linter.unusedVariables false
set_option linter.unusedSimpArgs false

/-! ### laws_FnRelayValid: function 8 -/
def laws_FnRelayValid.f (k : Nat) (l0 : List Int) : Option (Bool) := if (l0.length : Int) > 1048576 then (some true) else ((spec_DrawRelayValid.f k l0).bind fun bt179 => ((impl_RelayValid.f bt179.1 bt179.2).bind fun t182 => ((spec_RelayValid.f bt179.1 bt179.2).bind fun t183 => (if (t182 != t183) = true then (some false) else (if t182 = true then ((impl_RelayValid.f bt179.1 1).bind fun t184 => (if t184 = true then ((impl_RelayValid.f 0 bt179.2).bind fun t185 => (if t185 = true then (some false) else ((laws_alive.f k).bind fun t186 => (some t186)))) else (some false))) else ((impl_RelayValid.f 0 bt179.2).bind fun t187 => (if t187 = true then (some false) else ((laws_alive.f k).bind fun t188 => (some t188)))))))))
theorem laws_FnRelayValid.mono : ∀ a0 k, LeO (laws_FnRelayValid.f k a0) (laws_FnRelayValid.f (k + 1) a0) := by
 intro a0 k
 unfold laws_FnRelayValid.f
 repeat' first
   | (with_reducible exact laws_alive.mono _)
   | (with_reducible exact spec_DrawRelayValid.mono _ _)
   | (with_reducible exact LeO.refl _)
   | (with_reducible exact LeO.none _)
   | (with_reducible refine LeO.ite ?_ ?_)
   | (with_reducible refine LeO.bind ?_ (fun _ => ?_))
   | exact laws_alive.mono _
   | exact spec_DrawRelayValid.mono _ _
   | exact LeO.none _
   | refine LeO.ite ?_ ?_
   | refine LeO.bind ?_ (fun _ => ?_)
set_option maxHeartbeats 8000000 in
set_option maxRecDepth 100000 in
theorem laws_FnRelayValid.calls (k : Nat) (A0 : Option Addr) (c0 : Nat) (l0 : List Int) (r : Bool) (w : World) (hr0 : Kd.C (Kd.int .u8) w A0 l0.length l0) (hc0 : l0.length ≤ c0) (h : laws_FnRelayValid.f k l0 = some r) :
  Calls Tryd.prog 8 #[.slice A0 l0.length c0] w fun e w' => e = .returned (.bool r) ∧ Below w.heap.size w w' := by
 have hu63 := Tryd.underlying63
 have HR0 := Aside0.mk hr0
 have HC0 := Aside0.mk hc0
 clear hr0 hc0
 have HB := Aside0.mk (Below.refl w.heap.size w)
 have H : (if (l0.length : Int) > 1048576 then (some true) else ((spec_DrawRelayValid.f k l0).bind fun bt179 => ((impl_RelayValid.f bt179.1 bt179.2).bind fun t182 => ((spec_RelayValid.f bt179.1 bt179.2).bind fun t183 => (if (t182 != t183) = true then (some false) else (if t182 = true then ((impl_RelayValid.f bt179.1 1).bind fun t184 => (if t184 = true then ((impl_RelayValid.f 0 bt179.2).bind fun t185 => (if t185 = true then (some false) else ((laws_alive.f k).bind fun t186 => (some t186)))) else (some false))) else ((impl_RelayValid.f 0 bt179.2).bind fun t187 => (if t187 = true then (some false) else ((laws_alive.f k).bind fun t188 => (some t188)))))))))) = some r := h
 clear h
 by_cases c2 : (l0.length : Int) > 1048576
 ·rw [if_pos c2] at H
  have c2b0 : decide (1048576 < (l0.length : Int)) = true := decide_eq_true c2
  have c2b1 : decide (1048576 < l0.length) = true := decide_eq_true (by omega)
  clear c2
  obtain rfl := Option.some.inj H
  go_enter Tryd.func8, Tryd.ntmps8
  go_wp2
  go_ret
  exact ⟨by first | rfl | (simp [errW_none, errW_some] <;> rfl) | (simp [*, errW_none, errW_some] <;> rfl), bw⟩
 ·rw [if_neg c2] at H
  have c2b0 : decide (1048576 < (l0.length : Int)) = false := decide_eq_false c2
  have c2b1 : decide (1048576 < l0.length) = false := decide_eq_false (by omega)
  clear c2
  replace H := Option.bind_eq_some_iff.mp H
  obtain ⟨⟨t179, t180⟩, A30, H⟩ := H
  replace H : ((impl_RelayValid.f t179 t180).bind fun t182 => ((spec_RelayValid.f t179 t180).bind fun t183 => (if (t182 != t183) = true then (some false) else (if t182 = true then ((impl_RelayValid.f t179 1).bind fun t184 => (if t184 = true then ((impl_RelayValid.f 0 t180).bind fun t185 => (if t185 = true then (some false) else ((laws_alive.f k).bind fun t186 => (some t186)))) else (some false))) else ((impl_RelayValid.f 0 t180).bind fun t187 => (if t187 = true then (some false) else ((laws_alive.f k).bind fun t188 => (some t188)))))))) = some r := H
  have A3 := Aside0.mk A30
  clear A30
  replace H := Option.bind_eq_some_iff.mp H
  obtain ⟨t182, A40, H⟩ := H
  replace H : ((spec_RelayValid.f t179 t180).bind fun t183 => (if (t182 != t183) = true then (some false) else (if t182 = true then ((impl_RelayValid.f t179 1).bind fun t184 => (if t184 = true then ((impl_RelayValid.f 0 t180).bind fun t185 => (if t185 = true then (some false) else ((laws_alive.f k).bind fun t186 => (some t186)))) else (some false))) else ((impl_RelayValid.f 0 t180).bind fun t187 => (if t187 = true then (some false) else ((laws_alive.f k).bind fun t188 => (some t188))))))) = some r := H
  have A4 := Aside0.mk A40
  clear A40
  replace H := Option.bind_eq_some_iff.mp H
  obtain ⟨t183, A50, H⟩ := H
  replace H : (if (t182 != t183) = true then (some false) else (if t182 = true then ((impl_RelayValid.f t179 1).bind fun t184 => (if t184 = true then ((impl_RelayValid.f 0 t180).bind fun t185 => (if t185 = true then (some false) else ((laws_alive.f k).bind fun t186 => (some t186)))) else (some false))) else ((impl_RelayValid.f 0 t180).bind fun t187 => (if t187 = true then (some false) else ((laws_alive.f k).bind fun t188 => (some t188)))))) = some r := H
  have A5 := Aside0.mk A50
  clear A50
  by_cases c6 : (t182 != t183) = true
  ·rw [if_pos c6] at H
   have c6b0 : (t182 != t183) = true := c6
   (try (have c6b1 : decide (t182 = t183) = false := by simpa using c6))
   (try (have c6b2 : (t182 == t183) = false := by simpa using c6))
   (try (have c6b3 : ¬ (t182 = t183) := by simpa using c6))
   clear c6
   obtain rfl := Option.some.inj H
   go_enter Tryd.func8, Tryd.ntmps8
   have TK0_ := Aside0.mk trivial
   go_wp2_with (first | (clear TK0_; (with_reducible refine gate_callee (f := 45) rfl ?_); refine goesL_ (some 9) rfl rfl Tryd.func45 (by kernel_rfl) rfl #[.slice A0 l0.length c0] rfl (by (try simp only [List.map_toArray, List.map_cons, List.map_nil]); first | done | rfl | (simp only [List.length_drop, List.length_take]; rfl)) ?_; (with_reducible refine (spec_DrawRelayValid.calls k _ _ l0 t179 t180 _ ?side1 ?side2 A3.out).mono ?_); (case side1 => repeat (first | exact HR0.out | (with_reducible refine Kd.C_alloc ?_ _) | (with_reducible refine Kd.C_drewN ?_ _) | (with_reducible refine Kd.C_drew ?_))); (case side2 => exact HC0.out); rintro e w7 ⟨rfl, hb⟩; refine ⟨_, rfl, ?_⟩; have n0_ := Aside0.mk (below_step bw hb); clear HB; have HB := n0_; clear n0_; (try clear hb); (try clear hb2); (try clear hk); (try clear hi); have TK1_ := Aside0.mk trivial) | (clear TK1_; (with_reducible refine gate_dst (N := 3) rfl ?_); refine box_event ?hg (N := 3) ?hd (cs := #[.int .i64 0, .int .i64 0]) (t := 63) ?hr ?_; (case hd => rfl); (case hg => rfl); (case hr => first | (go_simp; done) | (go_simp; rfl)); intro gb181 hg w8 hbox hb; have n0_ := Aside0.mk (below_step bw hb); have n1_ := Aside0.mk (hbox); have n2_ := Aside0.mk ((by rw [hg]; exact (below_size bw) : w.heap.size ≤ gb181)); have n3_ := Aside0.mk ((by rw [hg]; exact (below_size bw) : w.heap.size ≤ gb181)); clear HB; have HB := n0_; have BK181 := n1_; have GW181 := n2_; have GE181 := n3_; clear n0_ n1_ n2_ n3_; clear hb hbox hg; have hcz9_0 : w8.cell? ⟨gb181, 0, none⟩ = some (.int .i64 0) := (blk_cell BK181.out 0).trans rfl; have hcz9_1 : w8.cell? ⟨gb181, 1, none⟩ = some (.int .i64 0) := (blk_cell BK181.out 1).trans rfl; have hfz9_0 := blk_frozen BK181.out 0; have hfz9_1 := blk_frozen BK181.out 1; have TK2_ := Aside0.mk trivial) | (clear TK2_; (with_reducible refine gate_callee (f := 46) rfl ?_); refine goesL_ (some 11) rfl rfl Tryd.func46 (by kernel_rfl) rfl #[.agg #[.int .i64 t179, .int .i64 t180]] rfl (by (try simp only [List.map_toArray, List.map_cons, List.map_nil]); first | done | rfl | (simp only [List.length_drop, List.length_take]; rfl)) ?_; (with_reducible refine (impl_RelayValid.calls t179 t180 t182 _ A4.out).mono ?_); rintro e w10 ⟨rfl, hb⟩; refine ⟨_, rfl, ?_⟩; have n0_ := Aside0.mk (blk_below (g := gb181) (o := .cells #[.int .i64 t179, .int .i64 t180] 63 (0, 0)) (by (with_reducible repeat (first | refine blk_drewN ?_ _ | refine blk_drew ?_ | refine blk_alloc ?_ _)); refine blk_put (cs := #[.int .i64 t179, .int .i64 0]) ?_ 1 _ rfl; (with_reducible repeat (first | refine blk_drewN ?_ _ | refine blk_drew ?_ | refine blk_alloc ?_ _)); refine blk_put (cs := #[.int .i64 0, .int .i64 0]) ?_ 0 _ rfl; (with_reducible repeat (first | refine blk_drewN ?_ _ | refine blk_drew ?_ | refine blk_alloc ?_ _)); exact BK181.out) hb); have n1_ := Aside0.mk (below_step bw hb); clear BK181 HB; have BK181 := n0_; have HB := n1_; clear n0_ n1_; (try clear hb); (try clear hb2); (try clear hk); (try clear hi); have hcz11_0 : w10.cell? ⟨gb181, 0, none⟩ = some (.int .i64 t179) := (blk_cell BK181.out 0).trans rfl; have hcz11_1 : w10.cell? ⟨gb181, 1, none⟩ = some (.int .i64 t180) := (blk_cell BK181.out 1).trans rfl; have hfz11_0 := blk_frozen BK181.out 0; have hfz11_1 := blk_frozen BK181.out 1; have TK3_ := Aside0.mk trivial) | (clear TK3_; (with_reducible refine gate_callee (f := 47) rfl ?_); refine goesL_ (some 14) rfl rfl Tryd.func47 (by kernel_rfl) rfl #[.agg #[.int .i64 t179, .int .i64 t180]] rfl (by (try simp only [List.map_toArray, List.map_cons, List.map_nil]); first | done | rfl | (simp only [List.length_drop, List.length_take]; rfl)) ?_; (with_reducible refine (spec_RelayValid.calls t179 t180 t183 _ A5.out).mono ?_); rintro e w12 ⟨rfl, hb⟩; refine ⟨_, rfl, ?_⟩; have n0_ := bkB BK181 hb; have n1_ := Aside0.mk (below_step bw hb); clear BK181 HB; have BK181 := n0_; have HB := n1_; clear n0_ n1_; (try clear hb); (try clear hb2); (try clear hk); (try clear hi); have TK4_ := Aside0.mk trivial))
   go_ret
   exact ⟨by first | rfl | (simp [errW_none, errW_some] <;> rfl) | (simp [*, errW_none, errW_some] <;> rfl), bw⟩
  ·rw [if_neg c6] at H
   have c6b0 : (t182 != t183) = false := by simpa using c6
   (try (have c6b1 : decide (t182 = t183) = true := by simpa using c6))
   (try (have c6b2 : (t182 == t183) = true := by simpa using c6))
   clear c6
   by_cases c13 : t182 = true
   ·subst c13
    have H1 : ((impl_RelayValid.f t179 1).bind fun t184 => (if t184 = true then ((impl_RelayValid.f 0 t180).bind fun t185 => (if t185 = true then (some false) else ((laws_alive.f k).bind fun t186 => (some t186)))) else (some false))) = some r := by rw [if_pos rfl] at H; exact H
    clear H
    have H := H1
    clear H1
    replace H := Option.bind_eq_some_iff.mp H
    obtain ⟨t184, A140, H⟩ := H
    replace H : (if t184 = true then ((impl_RelayValid.f 0 t180).bind fun t185 => (if t185 = true then (some false) else ((laws_alive.f k).bind fun t186 => (some t186)))) else (some false)) = some r := H
    have A14 := Aside0.mk A140
    clear A140
    by_cases c15 : t184 = true
    ·subst c15
     have H1 : ((impl_RelayValid.f 0 t180).bind fun t185 => (if t185 = true then (some false) else ((laws_alive.f k).bind fun t186 => (some t186)))) = some r := by rw [if_pos rfl] at H; exact H
     clear H
     have H := H1
     clear H1
     replace H := Option.bind_eq_some_iff.mp H
     obtain ⟨t185, A160, H⟩ := H
     replace H : (if t185 = true then (some false) else ((laws_alive.f k).bind fun t186 => (some t186))) = some r := H
     have A16 := Aside0.mk A160
     clear A160
     by_cases c17 : t185 = true
     ·subst c17
      have H1 : (some false) = some r := by rw [if_pos rfl] at H; exact H
      clear H
      have H := H1
      clear H1
      obtain rfl := Option.some.inj H
      go_enter Tryd.func8, Tryd.ntmps8
      have TK0_ := Aside0.mk trivial
      go_wp2_with (first | (clear TK0_; (with_reducible refine gate_callee (f := 45) rfl ?_); refine goesL_ (some 9) rfl rfl Tryd.func45 (by kernel_rfl) rfl #[.slice A0 l0.length c0] rfl (by (try simp only [List.map_toArray, List.map_cons, List.map_nil]); first | done | rfl | (simp only [List.length_drop, List.length_take]; rfl)) ?_; (with_reducible refine (spec_DrawRelayValid.calls k _ _ l0 t179 t180 _ ?side1 ?side2 A3.out).mono ?_); (case side1 => repeat (first | exact HR0.out | (with_reducible refine Kd.C_alloc ?_ _) | (with_reducible refine Kd.C_drewN ?_ _) | (with_reducible refine Kd.C_drew ?_))); (case side2 => exact HC0.out); rintro e w18 ⟨rfl, hb⟩; refine ⟨_, rfl, ?_⟩; have n0_ := Aside0.mk (below_step bw hb); clear HB; have HB := n0_; clear n0_; (try clear hb); (try clear hb2); (try clear hk); (try clear hi); have TK1_ := Aside0.mk trivial) | (clear TK1_; (with_reducible refine gate_dst (N := 3) rfl ?_); refine box_event ?hg (N := 3) ?hd (cs := #[.int .i64 0, .int .i64 0]) (t := 63) ?hr ?_; (case hd => rfl); (case hg => rfl); (case hr => first | (go_simp; done) | (go_simp; rfl)); intro gb181 hg w19 hbox hb; have n0_ := Aside0.mk (below_step bw hb); have n1_ := Aside0.mk (hbox); have n2_ := Aside0.mk ((by rw [hg]; exact (below_size bw) : w.heap.size ≤ gb181)); have n3_ := Aside0.mk ((by rw [hg]; exact (below_size bw) : w.heap.size ≤ gb181)); clear HB; have HB := n0_; have BK181 := n1_; have GW181 := n2_; have GE181 := n3_; clear n0_ n1_ n2_ n3_; clear hb hbox hg; have hcz20_0 : w19.cell? ⟨gb181, 0, none⟩ = some (.int .i64 0) := (blk_cell BK181.out 0).trans rfl; have hcz20_1 : w19.cell? ⟨gb181, 1, none⟩ = some (.int .i64 0) := (blk_cell BK181.out 1).trans rfl; have hfz20_0 := blk_frozen BK181.out 0; have hfz20_1 := blk_frozen BK181.out 1; have TK2_ := Aside0.mk trivial) | (clear TK2_; (with_reducible refine gate_callee (f := 46) rfl ?_); refine goesL_ (some 11) rfl rfl Tryd.func46 (by kernel_rfl) rfl #[.agg #[.int .i64 t179, .int .i64 t180]] rfl (by (try simp only [List.map_toArray, List.map_cons, List.map_nil]); first | done | rfl | (simp only [List.length_drop, List.length_take]; rfl)) ?_; (with_reducible refine (impl_RelayValid.calls t179 t180 true _ A4.out).mono ?_); rintro e w21 ⟨rfl, hb⟩; refine ⟨_, rfl, ?_⟩; have n0_ := Aside0.mk (blk_below (g := gb181) (o := .cells #[.int .i64 t179, .int .i64 t180] 63 (0, 0)) (by (with_reducible repeat (first | refine blk_drewN ?_ _ | refine blk_drew ?_ | refine blk_alloc ?_ _)); refine blk_put (cs := #[.int .i64 t179, .int .i64 0]) ?_ 1 _ rfl; (with_reducible repeat (first | refine blk_drewN ?_ _ | refine blk_drew ?_ | refine blk_alloc ?_ _)); refine blk_put (cs := #[.int .i64 0, .int .i64 0]) ?_ 0 _ rfl; (with_reducible repeat (first | refine blk_drewN ?_ _ | refine blk_drew ?_ | refine blk_alloc ?_ _)); exact BK181.out) hb); have n1_ := Aside0.mk (below_step bw hb); clear BK181 HB; have BK181 := n0_; have HB := n1_; clear n0_ n1_; (try clear hb); (try clear hb2); (try clear hk); (try clear hi); have hcz22_0 : w21.cell? ⟨gb181, 0, none⟩ = some (.int .i64 t179) := (blk_cell BK181.out 0).trans rfl; have hcz22_1 : w21.cell? ⟨gb181, 1, none⟩ = some (.int .i64 t180) := (blk_cell BK181.out 1).trans rfl; have hfz22_0 := blk_frozen BK181.out 0; have hfz22_1 := blk_frozen BK181.out 1; have TK3_ := Aside0.mk trivial) | (clear TK3_; (with_reducible refine gate_callee (f := 47) rfl ?_); refine goesL_ (some 14) rfl rfl Tryd.func47 (by kernel_rfl) rfl #[.agg #[.int .i64 t179, .int .i64 t180]] rfl (by (try simp only [List.map_toArray, List.map_cons, List.map_nil]); first | done | rfl | (simp only [List.length_drop, List.length_take]; rfl)) ?_; (with_reducible refine (spec_RelayValid.calls t179 t180 t183 _ A5.out).mono ?_); rintro e w23 ⟨rfl, hb⟩; refine ⟨_, rfl, ?_⟩; have n0_ := bkB BK181 hb; have n1_ := Aside0.mk (below_step bw hb); clear BK181 HB; have BK181 := n0_; have HB := n1_; clear n0_ n1_; (try clear hb); (try clear hb2); (try clear hk); (try clear hi); have hcz24_0 : w23.cell? ⟨gb181, 0, none⟩ = some (.int .i64 t179) := (blk_cell BK181.out 0).trans rfl; have hcz24_1 : w23.cell? ⟨gb181, 1, none⟩ = some (.int .i64 t180) := (blk_cell BK181.out 1).trans rfl; have hfz24_0 := blk_frozen BK181.out 0; have hfz24_1 := blk_frozen BK181.out 1; have TK4_ := Aside0.mk trivial) | (clear TK4_; go_at_call 46; (with_reducible refine (impl_RelayValid.calls t179 1 true _ A14.out).mono ?_); rintro e w25 ⟨rfl, hb⟩; have n0_ := bkB BK181 hb; have n1_ := Aside0.mk (below_step bw hb); clear BK181 HB; have BK181 := n0_; have HB := n1_; clear n0_ n1_; (try clear hb); (try clear hb2); (try clear hk); (try clear hi); have hcz26_0 : w25.cell? ⟨gb181, 0, none⟩ = some (.int .i64 t179) := (blk_cell BK181.out 0).trans rfl; have hcz26_1 : w25.cell? ⟨gb181, 1, none⟩ = some (.int .i64 t180) := (blk_cell BK181.out 1).trans rfl; have hfz26_0 := blk_frozen BK181.out 0; have hfz26_1 := blk_frozen BK181.out 1; have TK5_ := Aside0.mk trivial) | (clear TK5_; go_at_call 46; (with_reducible refine (impl_RelayValid.calls 0 t180 true _ A16.out).mono ?_); rintro e w27 ⟨rfl, hb⟩; have n0_ := bkB BK181 hb; have n1_ := Aside0.mk (below_step bw hb); clear BK181 HB; have BK181 := n0_; have HB := n1_; clear n0_ n1_; (try clear hb); (try clear hb2); (try clear hk); (try clear hi); have TK6_ := Aside0.mk trivial))
      go_ret
      exact ⟨by first | rfl | (simp [errW_none, errW_some] <;> rfl) | (simp [*, errW_none, errW_some] <;> rfl), bw⟩
     ·replace c17 := Bool.eq_false_iff.mpr c17
      subst c17
      have H1 : ((laws_alive.f k).bind fun t186 => (some t186)) = some r := by rw [if_neg (show ¬ (false = true) by decide)] at H; exact H
      clear H
      have H := H1
      clear H1
      replace H := Option.bind_eq_some_iff.mp H
      obtain ⟨t186, A280, H⟩ := H
      replace H : (some t186) = some r := H
      have A28 := Aside0.mk A280
      clear A280
      obtain rfl := Option.some.inj H
      go_enter Tryd.func8, Tryd.ntmps8
      have TK0_ := Aside0.mk trivial
      go_wp2_with (first | (clear TK0_; (with_reducible refine gate_callee (f := 45) rfl ?_); refine goesL_ (some 9) rfl rfl Tryd.func45 (by kernel_rfl) rfl #[.slice A0 l0.length c0] rfl (by (try simp only [List.map_toArray, List.map_cons, List.map_nil]); first | done | rfl | (simp only [List.length_drop, List.length_take]; rfl)) ?_; (with_reducible refine (spec_DrawRelayValid.calls k _ _ l0 t179 t180 _ ?side1 ?side2 A3.out).mono ?_); (case side1 => repeat (first | exact HR0.out | (with_reducible refine Kd.C_alloc ?_ _) | (with_reducible refine Kd.C_drewN ?_ _) | (with_reducible refine Kd.C_drew ?_))); (case side2 => exact HC0.out); rintro e w29 ⟨rfl, hb⟩; refine ⟨_, rfl, ?_⟩; have n0_ := Aside0.mk (below_step bw hb); clear HB; have HB := n0_; clear n0_; (try clear hb); (try clear hb2); (try clear hk); (try clear hi); have TK1_ := Aside0.mk trivial) | (clear TK1_; (with_reducible refine gate_dst (N := 3) rfl ?_); refine box_event ?hg (N := 3) ?hd (cs := #[.int .i64 0, .int .i64 0]) (t := 63) ?hr ?_; (case hd => rfl); (case hg => rfl); (case hr => first | (go_simp; done) | (go_simp; rfl)); intro gb181 hg w30 hbox hb; have n0_ := Aside0.mk (below_step bw hb); have n1_ := Aside0.mk (hbox); have n2_ := Aside0.mk ((by rw [hg]; exact (below_size bw) : w.heap.size ≤ gb181)); have n3_ := Aside0.mk ((by rw [hg]; exact (below_size bw) : w.heap.size ≤ gb181)); clear HB; have HB := n0_; have BK181 := n1_; have GW181 := n2_; have GE181 := n3_; clear n0_ n1_ n2_ n3_; clear hb hbox hg; have hcz31_0 : w30.cell? ⟨gb181, 0, none⟩ = some (.int .i64 0) := (blk_cell BK181.out 0).trans rfl; have hcz31_1 : w30.cell? ⟨gb181, 1, none⟩ = some (.int .i64 0) := (blk_cell BK181.out 1).trans rfl; have hfz31_0 := blk_frozen BK181.out 0; have hfz31_1 := blk_frozen BK181.out 1; have TK2_ := Aside0.mk trivial) | (clear TK2_; (with_reducible refine gate_callee (f := 46) rfl ?_); refine goesL_ (some 11) rfl rfl Tryd.func46 (by kernel_rfl) rfl #[.agg #[.int .i64 t179, .int .i64 t180]] rfl (by (try simp only [List.map_toArray, List.map_cons, List.map_nil]); first | done | rfl | (simp only [List.length_drop, List.length_take]; rfl)) ?_; (with_reducible refine (impl_RelayValid.calls t179 t180 true _ A4.out).mono ?_); rintro e w32 ⟨rfl, hb⟩; refine ⟨_, rfl, ?_⟩; have n0_ := Aside0.mk (blk_below (g := gb181) (o := .cells #[.int .i64 t179, .int .i64 t180] 63 (0, 0)) (by (with_reducible repeat (first | refine blk_drewN ?_ _ | refine blk_drew ?_ | refine blk_alloc ?_ _)); refine blk_put (cs := #[.int .i64 t179, .int .i64 0]) ?_ 1 _ rfl; (with_reducible repeat (first | refine blk_drewN ?_ _ | refine blk_drew ?_ | refine blk_alloc ?_ _)); refine blk_put (cs := #[.int .i64 0, .int .i64 0]) ?_ 0 _ rfl; (with_reducible repeat (first | refine blk_drewN ?_ _ | refine blk_drew ?_ | refine blk_alloc ?_ _)); exact BK181.out) hb); have n1_ := Aside0.mk (below_step bw hb); clear BK181 HB; have BK181 := n0_; have HB := n1_; clear n0_ n1_; (try clear hb); (try clear hb2); (try clear hk); (try clear hi); have hcz33_0 : w32.cell? ⟨gb181, 0, none⟩ = some (.int .i64 t179) := (blk_cell BK181.out 0).trans rfl; have hcz33_1 : w32.cell? ⟨gb181, 1, none⟩ = some (.int .i64 t180) := (blk_cell BK181.out 1).trans rfl; have hfz33_0 := blk_frozen BK181.out 0; have hfz33_1 := blk_frozen BK181.out 1; have TK3_ := Aside0.mk trivial) | (clear TK3_; (with_reducible refine gate_callee (f := 47) rfl ?_); refine goesL_ (some 14) rfl rfl Tryd.func47 (by kernel_rfl) rfl #[.agg #[.int .i64 t179, .int .i64 t180]] rfl (by (try simp only [List.map_toArray, List.map_cons, List.map_nil]); first | done | rfl | (simp only [List.length_drop, List.length_take]; rfl)) ?_; (with_reducible refine (spec_RelayValid.calls t179 t180 t183 _ A5.out).mono ?_); rintro e w34 ⟨rfl, hb⟩; refine ⟨_, rfl, ?_⟩; have n0_ := bkB BK181 hb; have n1_ := Aside0.mk (below_step bw hb); clear BK181 HB; have BK181 := n0_; have HB := n1_; clear n0_ n1_; (try clear hb); (try clear hb2); (try clear hk); (try clear hi); have hcz35_0 : w34.cell? ⟨gb181, 0, none⟩ = some (.int .i64 t179) := (blk_cell BK181.out 0).trans rfl; have hcz35_1 : w34.cell? ⟨gb181, 1, none⟩ = some (.int .i64 t180) := (blk_cell BK181.out 1).trans rfl; have hfz35_0 := blk_frozen BK181.out 0; have hfz35_1 := blk_frozen BK181.out 1; have TK4_ := Aside0.mk trivial) | (clear TK4_; go_at_call 46; (with_reducible refine (impl_RelayValid.calls t179 1 true _ A14.out).mono ?_); rintro e w36 ⟨rfl, hb⟩; have n0_ := bkB BK181 hb; have n1_ := Aside0.mk (below_step bw hb); clear BK181 HB; have BK181 := n0_; have HB := n1_; clear n0_ n1_; (try clear hb); (try clear hb2); (try clear hk); (try clear hi); have hcz37_0 : w36.cell? ⟨gb181, 0, none⟩ = some (.int .i64 t179) := (blk_cell BK181.out 0).trans rfl; have hcz37_1 : w36.cell? ⟨gb181, 1, none⟩ = some (.int .i64 t180) := (blk_cell BK181.out 1).trans rfl; have hfz37_0 := blk_frozen BK181.out 0; have hfz37_1 := blk_frozen BK181.out 1; have TK5_ := Aside0.mk trivial) | (clear TK5_; go_at_call 46; (with_reducible refine (impl_RelayValid.calls 0 t180 false _ A16.out).mono ?_); rintro e w38 ⟨rfl, hb⟩; have n0_ := bkB BK181 hb; have n1_ := Aside0.mk (below_step bw hb); clear BK181 HB; have BK181 := n0_; have HB := n1_; clear n0_ n1_; (try clear hb); (try clear hb2); (try clear hk); (try clear hi); have TK6_ := Aside0.mk trivial) | (clear TK6_; go_at_call 21; (with_reducible refine (laws_alive.calls k  t186 _ A28.out).mono ?_); rintro e w39 ⟨rfl, hb⟩; have n0_ := bkB BK181 hb; have n1_ := Aside0.mk (below_step bw hb); clear BK181 HB; have BK181 := n0_; have HB := n1_; clear n0_ n1_; (try clear hb); (try clear hb2); (try clear hk); (try clear hi); have TK7_ := Aside0.mk trivial))
      go_ret
      exact ⟨by first | rfl | (simp [errW_none, errW_some] <;> rfl) | (simp [*, errW_none, errW_some] <;> rfl), bw⟩
    ·replace c15 := Bool.eq_false_iff.mpr c15
     subst c15
     have H1 : (some false) = some r := by rw [if_neg (show ¬ (false = true) by decide)] at H; exact H
     clear H
     have H := H1
     clear H1
     obtain rfl := Option.some.inj H
     go_enter Tryd.func8, Tryd.ntmps8
     have TK0_ := Aside0.mk trivial
     go_wp2_with (first | (clear TK0_; (with_reducible refine gate_callee (f := 45) rfl ?_); refine goesL_ (some 9) rfl rfl Tryd.func45 (by kernel_rfl) rfl #[.slice A0 l0.length c0] rfl (by (try simp only [List.map_toArray, List.map_cons, List.map_nil]); first | done | rfl | (simp only [List.length_drop, List.length_take]; rfl)) ?_; (with_reducible refine (spec_DrawRelayValid.calls k _ _ l0 t179 t180 _ ?side1 ?side2 A3.out).mono ?_); (case side1 => repeat (first | exact HR0.out | (with_reducible refine Kd.C_alloc ?_ _) | (with_reducible refine Kd.C_drewN ?_ _) | (with_reducible refine Kd.C_drew ?_))); (case side2 => exact HC0.out); rintro e w40 ⟨rfl, hb⟩; refine ⟨_, rfl, ?_⟩; have n0_ := Aside0.mk (below_step bw hb); clear HB; have HB := n0_; clear n0_; (try clear hb); (try clear hb2); (try clear hk); (try clear hi); have TK1_ := Aside0.mk trivial) | (clear TK1_; (with_reducible refine gate_dst (N := 3) rfl ?_); refine box_event ?hg (N := 3) ?hd (cs := #[.int .i64 0, .int .i64 0]) (t := 63) ?hr ?_; (case hd => rfl); (case hg => rfl); (case hr => first | (go_simp; done) | (go_simp; rfl)); intro gb181 hg w41 hbox hb; have n0_ := Aside0.mk (below_step bw hb); have n1_ := Aside0.mk (hbox); have n2_ := Aside0.mk ((by rw [hg]; exact (below_size bw) : w.heap.size ≤ gb181)); have n3_ := Aside0.mk ((by rw [hg]; exact (below_size bw) : w.heap.size ≤ gb181)); clear HB; have HB := n0_; have BK181 := n1_; have GW181 := n2_; have GE181 := n3_; clear n0_ n1_ n2_ n3_; clear hb hbox hg; have hcz42_0 : w41.cell? ⟨gb181, 0, none⟩ = some (.int .i64 0) := (blk_cell BK181.out 0).trans rfl; have hcz42_1 : w41.cell? ⟨gb181, 1, none⟩ = some (.int .i64 0) := (blk_cell BK181.out 1).trans rfl; have hfz42_0 := blk_frozen BK181.out 0; have hfz42_1 := blk_frozen BK181.out 1; have TK2_ := Aside0.mk trivial) | (clear TK2_; (with_reducible refine gate_callee (f := 46) rfl ?_); refine goesL_ (some 11) rfl rfl Tryd.func46 (by kernel_rfl) rfl #[.agg #[.int .i64 t179, .int .i64 t180]] rfl (by (try simp only [List.map_toArray, List.map_cons, List.map_nil]); first | done | rfl | (simp only [List.length_drop, List.length_take]; rfl)) ?_; (with_reducible refine (impl_RelayValid.calls t179 t180 true _ A4.out).mono ?_); rintro e w43 ⟨rfl, hb⟩; refine ⟨_, rfl, ?_⟩; have n0_ := Aside0.mk (blk_below (g := gb181) (o := .cells #[.int .i64 t179, .int .i64 t180] 63 (0, 0)) (by (with_reducible repeat (first | refine blk_drewN ?_ _ | refine blk_drew ?_ | refine blk_alloc ?_ _)); refine blk_put (cs := #[.int .i64 t179, .int .i64 0]) ?_ 1 _ rfl; (with_reducible repeat (first | refine blk_drewN ?_ _ | refine blk_drew ?_ | refine blk_alloc ?_ _)); refine blk_put (cs := #[.int .i64 0, .int .i64 0]) ?_ 0 _ rfl; (with_reducible repeat (first | refine blk_drewN ?_ _ | refine blk_drew ?_ | refine blk_alloc ?_ _)); exact BK181.out) hb); have n1_ := Aside0.mk (below_step bw hb); clear BK181 HB; have BK181 := n0_; have HB := n1_; clear n0_ n1_; (try clear hb); (try clear hb2); (try clear hk); (try clear hi); have hcz44_0 : w43.cell? ⟨gb181, 0, none⟩ = some (.int .i64 t179) := (blk_cell BK181.out 0).trans rfl; have hcz44_1 : w43.cell? ⟨gb181, 1, none⟩ = some (.int .i64 t180) := (blk_cell BK181.out 1).trans rfl; have hfz44_0 := blk_frozen BK181.out 0; have hfz44_1 := blk_frozen BK181.out 1; have TK3_ := Aside0.mk trivial) | (clear TK3_; (with_reducible refine gate_callee (f := 47) rfl ?_); refine goesL_ (some 14) rfl rfl Tryd.func47 (by kernel_rfl) rfl #[.agg #[.int .i64 t179, .int .i64 t180]] rfl (by (try simp only [List.map_toArray, List.map_cons, List.map_nil]); first | done | rfl | (simp only [List.length_drop, List.length_take]; rfl)) ?_; (with_reducible refine (spec_RelayValid.calls t179 t180 t183 _ A5.out).mono ?_); rintro e w45 ⟨rfl, hb⟩; refine ⟨_, rfl, ?_⟩; have n0_ := bkB BK181 hb; have n1_ := Aside0.mk (below_step bw hb); clear BK181 HB; have BK181 := n0_; have HB := n1_; clear n0_ n1_; (try clear hb); (try clear hb2); (try clear hk); (try clear hi); have hcz46_0 : w45.cell? ⟨gb181, 0, none⟩ = some (.int .i64 t179) := (blk_cell BK181.out 0).trans rfl; have hcz46_1 : w45.cell? ⟨gb181, 1, none⟩ = some (.int .i64 t180) := (blk_cell BK181.out 1).trans rfl; have hfz46_0 := blk_frozen BK181.out 0; have hfz46_1 := blk_frozen BK181.out 1; have TK4_ := Aside0.mk trivial) | (clear TK4_; go_at_call 46; (with_reducible refine (impl_RelayValid.calls t179 1 false _ A14.out).mono ?_); rintro e w47 ⟨rfl, hb⟩; have n0_ := bkB BK181 hb; have n1_ := Aside0.mk (below_step bw hb); clear BK181 HB; have BK181 := n0_; have HB := n1_; clear n0_ n1_; (try clear hb); (try clear hb2); (try clear hk); (try clear hi); have TK5_ := Aside0.mk trivial))
     go_ret
     exact ⟨by first | rfl | (simp [errW_none, errW_some] <;> rfl) | (simp [*, errW_none, errW_some] <;> rfl), bw⟩
   ·replace c13 := Bool.eq_false_iff.mpr c13
    subst c13
    have H1 : ((impl_RelayValid.f 0 t180).bind fun t187 => (if t187 = true then (some false) else ((laws_alive.f k).bind fun t188 => (some t188)))) = some r := by rw [if_neg (show ¬ (false = true) by decide)] at H; exact H
    clear H
    have H := H1
    clear H1
    replace H := Option.bind_eq_some_iff.mp H
    obtain ⟨t187, A480, H⟩ := H
    replace H : (if t187 = true then (some false) else ((laws_alive.f k).bind fun t188 => (some t188))) = some r := H
    have A48 := Aside0.mk A480
    clear A480
    by_cases c49 : t187 = true
    ·subst c49
     have H1 : (some false) = some r := by rw [if_pos rfl] at H; exact H
     clear H
     have H := H1
     clear H1
     obtain rfl := Option.some.inj H
     go_enter Tryd.func8, Tryd.ntmps8
     have TK0_ := Aside0.mk trivial
     go_wp2_with (first | (clear TK0_; (with_reducible refine gate_callee (f := 45) rfl ?_); refine goesL_ (some 9) rfl rfl Tryd.func45 (by kernel_rfl) rfl #[.slice A0 l0.length c0] rfl (by (try simp only [List.map_toArray, List.map_cons, List.map_nil]); first | done | rfl | (simp only [List.length_drop, List.length_take]; rfl)) ?_; (with_reducible refine (spec_DrawRelayValid.calls k _ _ l0 t179 t180 _ ?side1 ?side2 A3.out).mono ?_); (case side1 => repeat (first | exact HR0.out | (with_reducible refine Kd.C_alloc ?_ _) | (with_reducible refine Kd.C_drewN ?_ _) | (with_reducible refine Kd.C_drew ?_))); (case side2 => exact HC0.out); rintro e w50 ⟨rfl, hb⟩; refine ⟨_, rfl, ?_⟩; have n0_ := Aside0.mk (below_step bw hb); clear HB; have HB := n0_; clear n0_; (try clear hb); (try clear hb2); (try clear hk); (try clear hi); have TK1_ := Aside0.mk trivial) | (clear TK1_; (with_reducible refine gate_dst (N := 3) rfl ?_); refine box_event ?hg (N := 3) ?hd (cs := #[.int .i64 0, .int .i64 0]) (t := 63) ?hr ?_; (case hd => rfl); (case hg => rfl); (case hr => first | (go_simp; done) | (go_simp; rfl)); intro gb181 hg w51 hbox hb; have n0_ := Aside0.mk (below_step bw hb); have n1_ := Aside0.mk (hbox); have n2_ := Aside0.mk ((by rw [hg]; exact (below_size bw) : w.heap.size ≤ gb181)); have n3_ := Aside0.mk ((by rw [hg]; exact (below_size bw) : w.heap.size ≤ gb181)); clear HB; have HB := n0_; have BK181 := n1_; have GW181 := n2_; have GE181 := n3_; clear n0_ n1_ n2_ n3_; clear hb hbox hg; have hcz52_0 : w51.cell? ⟨gb181, 0, none⟩ = some (.int .i64 0) := (blk_cell BK181.out 0).trans rfl; have hcz52_1 : w51.cell? ⟨gb181, 1, none⟩ = some (.int .i64 0) := (blk_cell BK181.out 1).trans rfl; have hfz52_0 := blk_frozen BK181.out 0; have hfz52_1 := blk_frozen BK181.out 1; have TK2_ := Aside0.mk trivial) | (clear TK2_; (with_reducible refine gate_callee (f := 46) rfl ?_); refine goesL_ (some 11) rfl rfl Tryd.func46 (by kernel_rfl) rfl #[.agg #[.int .i64 t179, .int .i64 t180]] rfl (by (try simp only [List.map_toArray, List.map_cons, List.map_nil]); first | done | rfl | (simp only [List.length_drop, List.length_take]; rfl)) ?_; (with_reducible refine (impl_RelayValid.calls t179 t180 false _ A4.out).mono ?_); rintro e w53 ⟨rfl, hb⟩; refine ⟨_, rfl, ?_⟩; have n0_ := Aside0.mk (blk_below (g := gb181) (o := .cells #[.int .i64 t179, .int .i64 t180] 63 (0, 0)) (by (with_reducible repeat (first | refine blk_drewN ?_ _ | refine blk_drew ?_ | refine blk_alloc ?_ _)); refine blk_put (cs := #[.int .i64 t179, .int .i64 0]) ?_ 1 _ rfl; (with_reducible repeat (first | refine blk_drewN ?_ _ | refine blk_drew ?_ | refine blk_alloc ?_ _)); refine blk_put (cs := #[.int .i64 0, .int .i64 0]) ?_ 0 _ rfl; (with_reducible repeat (first | refine blk_drewN ?_ _ | refine blk_drew ?_ | refine blk_alloc ?_ _)); exact BK181.out) hb); have n1_ := Aside0.mk (below_step bw hb); clear BK181 HB; have BK181 := n0_; have HB := n1_; clear n0_ n1_; (try clear hb); (try clear hb2); (try clear hk); (try clear hi); have hcz54_0 : w53.cell? ⟨gb181, 0, none⟩ = some (.int .i64 t179) := (blk_cell BK181.out 0).trans rfl; have hcz54_1 : w53.cell? ⟨gb181, 1, none⟩ = some (.int .i64 t180) := (blk_cell BK181.out 1).trans rfl; have hfz54_0 := blk_frozen BK181.out 0; have hfz54_1 := blk_frozen BK181.out 1; have TK3_ := Aside0.mk trivial) | (clear TK3_; (with_reducible refine gate_callee (f := 47) rfl ?_); refine goesL_ (some 14) rfl rfl Tryd.func47 (by kernel_rfl) rfl #[.agg #[.int .i64 t179, .int .i64 t180]] rfl (by (try simp only [List.map_toArray, List.map_cons, List.map_nil]); first | done | rfl | (simp only [List.length_drop, List.length_take]; rfl)) ?_; (with_reducible refine (spec_RelayValid.calls t179 t180 t183 _ A5.out).mono ?_); rintro e w55 ⟨rfl, hb⟩; refine ⟨_, rfl, ?_⟩; have n0_ := bkB BK181 hb; have n1_ := Aside0.mk (below_step bw hb); clear BK181 HB; have BK181 := n0_; have HB := n1_; clear n0_ n1_; (try clear hb); (try clear hb2); (try clear hk); (try clear hi); have hcz56_0 : w55.cell? ⟨gb181, 0, none⟩ = some (.int .i64 t179) := (blk_cell BK181.out 0).trans rfl; have hcz56_1 : w55.cell? ⟨gb181, 1, none⟩ = some (.int .i64 t180) := (blk_cell BK181.out 1).trans rfl; have hfz56_0 := blk_frozen BK181.out 0; have hfz56_1 := blk_frozen BK181.out 1; have TK4_ := Aside0.mk trivial) | (clear TK4_; go_at_call 46; (with_reducible refine (impl_RelayValid.calls 0 t180 true _ A48.out).mono ?_); rintro e w57 ⟨rfl, hb⟩; have n0_ := bkB BK181 hb; have n1_ := Aside0.mk (below_step bw hb); clear BK181 HB; have BK181 := n0_; have HB := n1_; clear n0_ n1_; (try clear hb); (try clear hb2); (try clear hk); (try clear hi); have TK5_ := Aside0.mk trivial))
     go_ret
     exact ⟨by first | rfl | (simp [errW_none, errW_some] <;> rfl) | (simp [*, errW_none, errW_some] <;> rfl), bw⟩
    ·replace c49 := Bool.eq_false_iff.mpr c49
     subst c49
     have H1 : ((laws_alive.f k).bind fun t188 => (some t188)) = some r := by rw [if_neg (show ¬ (false = true) by decide)] at H; exact H
     clear H
     have H := H1
     clear H1
     replace H := Option.bind_eq_some_iff.mp H
     obtain ⟨t188, A580, H⟩ := H
     replace H : (some t188) = some r := H
     have A58 := Aside0.mk A580
     clear A580
     obtain rfl := Option.some.inj H
     go_enter Tryd.func8, Tryd.ntmps8
     have TK0_ := Aside0.mk trivial
     go_wp2_with (first | (clear TK0_; (with_reducible refine gate_callee (f := 45) rfl ?_); refine goesL_ (some 9) rfl rfl Tryd.func45 (by kernel_rfl) rfl #[.slice A0 l0.length c0] rfl (by (try simp only [List.map_toArray, List.map_cons, List.map_nil]); first | done | rfl | (simp only [List.length_drop, List.length_take]; rfl)) ?_; (with_reducible refine (spec_DrawRelayValid.calls k _ _ l0 t179 t180 _ ?side1 ?side2 A3.out).mono ?_); (case side1 => repeat (first | exact HR0.out | (with_reducible refine Kd.C_alloc ?_ _) | (with_reducible refine Kd.C_drewN ?_ _) | (with_reducible refine Kd.C_drew ?_))); (case side2 => exact HC0.out); rintro e w59 ⟨rfl, hb⟩; refine ⟨_, rfl, ?_⟩; have n0_ := Aside0.mk (below_step bw hb); clear HB; have HB := n0_; clear n0_; (try clear hb); (try clear hb2); (try clear hk); (try clear hi); have TK1_ := Aside0.mk trivial) | (clear TK1_; (with_reducible refine gate_dst (N := 3) rfl ?_); refine box_event ?hg (N := 3) ?hd (cs := #[.int .i64 0, .int .i64 0]) (t := 63) ?hr ?_; (case hd => rfl); (case hg => rfl); (case hr => first | (go_simp; done) | (go_simp; rfl)); intro gb181 hg w60 hbox hb; have n0_ := Aside0.mk (below_step bw hb); have n1_ := Aside0.mk (hbox); have n2_ := Aside0.mk ((by rw [hg]; exact (below_size bw) : w.heap.size ≤ gb181)); have n3_ := Aside0.mk ((by rw [hg]; exact (below_size bw) : w.heap.size ≤ gb181)); clear HB; have HB := n0_; have BK181 := n1_; have GW181 := n2_; have GE181 := n3_; clear n0_ n1_ n2_ n3_; clear hb hbox hg; have hcz61_0 : w60.cell? ⟨gb181, 0, none⟩ = some (.int .i64 0) := (blk_cell BK181.out 0).trans rfl; have hcz61_1 : w60.cell? ⟨gb181, 1, none⟩ = some (.int .i64 0) := (blk_cell BK181.out 1).trans rfl; have hfz61_0 := blk_frozen BK181.out 0; have hfz61_1 := blk_frozen BK181.out 1; have TK2_ := Aside0.mk trivial) | (clear TK2_; (with_reducible refine gate_callee (f := 46) rfl ?_); refine goesL_ (some 11) rfl rfl Tryd.func46 (by kernel_rfl) rfl #[.agg #[.int .i64 t179, .int .i64 t180]] rfl (by (try simp only [List.map_toArray, List.map_cons, List.map_nil]); first | done | rfl | (simp only [List.length_drop, List.length_take]; rfl)) ?_; (with_reducible refine (impl_RelayValid.calls t179 t180 false _ A4.out).mono ?_); rintro e w62 ⟨rfl, hb⟩; refine ⟨_, rfl, ?_⟩; have n0_ := Aside0.mk (blk_below (g := gb181) (o := .cells #[.int .i64 t179, .int .i64 t180] 63 (0, 0)) (by (with_reducible repeat (first | refine blk_drewN ?_ _ | refine blk_drew ?_ | refine blk_alloc ?_ _)); refine blk_put (cs := #[.int .i64 t179, .int .i64 0]) ?_ 1 _ rfl; (with_reducible repeat (first | refine blk_drewN ?_ _ | refine blk_drew ?_ | refine blk_alloc ?_ _)); refine blk_put (cs := #[.int .i64 0, .int .i64 0]) ?_ 0 _ rfl; (with_reducible repeat (first | refine blk_drewN ?_ _ | refine blk_drew ?_ | refine blk_alloc ?_ _)); exact BK181.out) hb); have n1_ := Aside0.mk (below_step bw hb); clear BK181 HB; have BK181 := n0_; have HB := n1_; clear n0_ n1_; (try clear hb); (try clear hb2); (try clear hk); (try clear hi); have hcz63_0 : w62.cell? ⟨gb181, 0, none⟩ = some (.int .i64 t179) := (blk_cell BK181.out 0).trans rfl; have hcz63_1 : w62.cell? ⟨gb181, 1, none⟩ = some (.int .i64 t180) := (blk_cell BK181.out 1).trans rfl; have hfz63_0 := blk_frozen BK181.out 0; have hfz63_1 := blk_frozen BK181.out 1; have TK3_ := Aside0.mk trivial) | (clear TK3_; (with_reducible refine gate_callee (f := 47) rfl ?_); refine goesL_ (some 14) rfl rfl Tryd.func47 (by kernel_rfl) rfl #[.agg #[.int .i64 t179, .int .i64 t180]] rfl (by (try simp only [List.map_toArray, List.map_cons, List.map_nil]); first | done | rfl | (simp only [List.length_drop, List.length_take]; rfl)) ?_; (with_reducible refine (spec_RelayValid.calls t179 t180 t183 _ A5.out).mono ?_); rintro e w64 ⟨rfl, hb⟩; refine ⟨_, rfl, ?_⟩; have n0_ := bkB BK181 hb; have n1_ := Aside0.mk (below_step bw hb); clear BK181 HB; have BK181 := n0_; have HB := n1_; clear n0_ n1_; (try clear hb); (try clear hb2); (try clear hk); (try clear hi); have hcz65_0 : w64.cell? ⟨gb181, 0, none⟩ = some (.int .i64 t179) := (blk_cell BK181.out 0).trans rfl; have hcz65_1 : w64.cell? ⟨gb181, 1, none⟩ = some (.int .i64 t180) := (blk_cell BK181.out 1).trans rfl; have hfz65_0 := blk_frozen BK181.out 0; have hfz65_1 := blk_frozen BK181.out 1; have TK4_ := Aside0.mk trivial) | (clear TK4_; go_at_call 46; (with_reducible refine (impl_RelayValid.calls 0 t180 false _ A48.out).mono ?_); rintro e w66 ⟨rfl, hb⟩; have n0_ := bkB BK181 hb; have n1_ := Aside0.mk (below_step bw hb); clear BK181 HB; have BK181 := n0_; have HB := n1_; clear n0_ n1_; (try clear hb); (try clear hb2); (try clear hk); (try clear hi); have TK5_ := Aside0.mk trivial) | (clear TK5_; go_at_call 21; (with_reducible refine (laws_alive.calls k  t188 _ A58.out).mono ?_); rintro e w67 ⟨rfl, hb⟩; have n0_ := bkB BK181 hb; have n1_ := Aside0.mk (below_step bw hb); clear BK181 HB; have BK181 := n0_; have HB := n1_; clear n0_ n1_; (try clear hb); (try clear hb2); (try clear hk); (try clear hi); have TK6_ := Aside0.mk trivial))
     go_ret
     exact ⟨by first | rfl | (simp [errW_none, errW_some] <;> rfl) | (simp [*, errW_none, errW_some] <;> rfl), bw⟩

/-! ### spec_l20Order: function 102 -/
def spec_l20Order.l0 : Nat → Int → List (S70) → Int → List Int → Int → Option ((List (S70)) × Int)
 | 0, _, _, _, _, _ => none
 | k + 1, x1, x5, x6, x1000, x1001 => if x6 > 0 then ((spec_l20Rd_pick.f k x1000 x1001 10).bind fun bt194 => ((spec_l20Rd_pick.f k x1000 bt194.2 2).bind fun bt196 => (if x5.length < 8796093022208 then (spec_l20Order.l0 k x1 (x5 ++ [(⟨bt194.1, (bt196.1 == 0)⟩ : S70)]) (wrap64 (x6 - 1)) x1000 bt196.2) else (none)))) else ((spec_l20Rd_odd.f k x1000 x1001 x1).bind fun bt201 => (if bt201.1 = true then ((spec_l20Rd_pick.f k x1000 bt201.2 2).bind fun bt203 => (if bt203.1 = 0 then (if 13 ≤ 17592186044416 then (some ((List.replicate 13 z70), bt203.2)) else (none)) else ((some (([(-1), 10] : List Int) : List Int)).bind fun y208 => ((spec_l20Rd_pick.f k x1000 bt203.2 2).bind fun bt211 => (if 0 ≤ bt211.1 then (if bt211.1 < (y208.length : Int) then (if x5.length < 8796093022208 then (some ((x5 ++ [(⟨rd y208 bt211.1, false⟩ : S70)]), bt211.2)) else (none)) else (none)) else (none)))))) else (some (x5, bt201.2))))
def spec_l20Order.f (k : Nat) (s0_0 : List Int) (s0_1 : Int) (a1 : Int) : Option ((List (S70)) × Int) := (spec_l20Rd_pick.f k s0_0 s0_1 6).bind fun bt192 => (spec_l20Order.l0 k a1 (([] : List (S70))) bt192.1 s0_0 bt192.2)
theorem spec_l20Order.mono_l : ∀ k, (∀ y0 y1 y2 y3 y4, LeO (spec_l20Order.l0 k y0 y1 y2 y3 y4) (spec_l20Order.l0 (k + 1) y0 y1 y2 y3 y4))
 | 0 => fun _ _ _ _ _ r h => by simp [spec_l20Order.l0] at h
 | k + 1 => by
  have ih0 := spec_l20Order.mono_l k
  ·intro y0 y1 y2 y3 y4
   unfold spec_l20Order.l0
   repeat' first
   | (with_reducible exact ih0 _ _ _ _ _)
   | (with_reducible exact spec_l20Rd_odd.mono _ _ _ _)
   | (with_reducible exact spec_l20Rd_pick.mono _ _ _ _)
   | (with_reducible exact LeO.refl _)
   | (with_reducible exact LeO.none _)
   | (with_reducible refine LeO.ite ?_ ?_)
   | (with_reducible refine LeO.bind ?_ (fun _ => ?_))
   | exact ih0 _ _ _ _ _
   | exact spec_l20Rd_odd.mono _ _ _ _
   | exact spec_l20Rd_pick.mono _ _ _ _
   | exact LeO.none _
   | refine LeO.ite ?_ ?_
   | refine LeO.bind ?_ (fun _ => ?_)
theorem spec_l20Order.mono : ∀ a0 a1 a2 k, LeO (spec_l20Order.f k a0 a1 a2) (spec_l20Order.f (k + 1) a0 a1 a2) := by
 intro a0 a1 a2 k
 have ih0 := spec_l20Order.mono_l k
 unfold spec_l20Order.f
 repeat' first
   | (with_reducible exact ih0 _ _ _ _ _)
   | (with_reducible exact spec_l20Rd_odd.mono _ _ _ _)
   | (with_reducible exact spec_l20Rd_pick.mono _ _ _ _)
   | (with_reducible exact LeO.refl _)
   | (with_reducible exact LeO.none _)
   | (with_reducible refine LeO.ite ?_ ?_)
   | (with_reducible refine LeO.bind ?_ (fun _ => ?_))
   | exact ih0 _ _ _ _ _
   | exact spec_l20Rd_odd.mono _ _ _ _
   | exact spec_l20Rd_pick.mono _ _ _ _
   | exact LeO.none _
   | refine LeO.ite ?_ ?_
   | refine LeO.bind ?_ (fun _ => ?_)
set_option maxHeartbeats 8000000 in
set_option maxRecDepth 100000 in
theorem spec_l20Order.calls (k : Nat) (g : Nat) (s0_0 : List Int) (s0_1 : Int) (a1 : Int) (r1 : List (S70)) (r2 : Int) (w0 w : World) (hI : IsS133 w0 w g s0_0 s0_1) (hB : Below w0.heap.size w0 w) (h : spec_l20Order.f k s0_0 s0_1 a1 = some (r1, r2)) :
  Calls Tryd.prog 102 #[.pointer (some ⟨g, 0, none⟩), .int .i64 a1] w fun e w' => ∃ v0_ : Value, e = .returned (v0_) ∧ Kd.R k70 70 w' w.heap.size (fun _ => True) v0_ r1 ∧ IsS133 w0 w' g s0_0 r2 ∧ Below w0.heap.size w0 w' ∧ KeepBut w w' g none := by
 have hu70 := Tryd.underlying70
 have HI0 := Aside0.mk hI
 have HK := Aside0.mk (KeepBut.refl w g none)
 have HL := Aside0.mk hB.size
 clear hI
 have HW0 := Aside0.mk hB.size
 have HB := Aside0.mk hB
 clear hB
 have H : ((spec_l20Rd_pick.f k s0_0 s0_1 6).bind fun bt192 => (spec_l20Order.l0 k a1 (([] : List (S70))) bt192.1 s0_0 bt192.2)) = some (r1, r2) := h
 clear h
 obtain ⟨y189, hy189⟩ : ∃ y_ : List (S70), y_ = (([] : List (S70))) := ⟨_, rfl⟩
 replace H : ((spec_l20Rd_pick.f k s0_0 s0_1 6).bind fun bt192 => (spec_l20Order.l0 k a1 y189 bt192.1 s0_0 bt192.2)) = some (r1, r2) := by first | (rw [hy189]; with_reducible exact H) | (have H2_ := (Option.bind_some _ _).symm.trans H; rw [hy189]; with_reducible exact H2_) | (have H2_ := (Option.bind_some _ _).symm.trans H; with_reducible exact H2_) | with_reducible exact H | (rw [hy189]; exact H) | exact H
 have Ny189 := Aside0.mk hy189
 clear hy189
 replace H := Option.bind_eq_some_iff.mp H
 obtain ⟨⟨t192, t193⟩, A30, H⟩ := H
 replace H : (spec_l20Order.l0 k a1 y189 t192 s0_0 t193) = some (r1, r2) := H
 have A3 := Aside0.mk A30
 clear A30
 have H' := Aside0.mk H
 clear H
 go_enter Tryd.func102, Tryd.ntmps102
 go_wp2_with (first | ((with_reducible refine gate_dst (N := 7) rfl ?_); refine Kd.R_lit k70 _ 70 ?hg (N := 7) ?hd (xs := ([] : List (S70))) (inner := []) (ok := fun _ => True) (okp := fun _ => True) ?hr ?hp (fun _ hk => by first | exact hk | grind) trivial (Below.refl _ _) (Nat.le_refl _) (by simp) ?_; (case hd => rfl); (case hg => rfl); (case hr => first | (go_simp; done) | (go_simp; rfl)); (case hp => exact (Reps.none _ _)); intro v190 w4 ho5 hb hg_ hnew_; clear hg_ hnew_; (first | rw [← Ny189.out] at ho5 | (simp only [Int.reduceToNat] at ho5; rw [← Ny189.out] at ho5)); have n0_ := Aside0.mk (Kd.R_lower ho5 (keep_size (w := w) (g := g) (row := none) (by repeat (first | (with_reducible first | exact HK.out | apply KeepBut.set_ | apply keep_drewN | apply keep_drew | apply keep_alloc) | exact HK.out)))); have n1_ := Aside0.mk (IsS133.below (by repeat (first | (with_reducible first | exact HI0.out | apply IsS133.alloc | apply IsS133.drewN | apply IsS133.drew | apply IsS133.set_1) | exact HI0.out)) hb); have n2_ := Aside0.mk (KeepBut.trans (by repeat (first | (with_reducible first | exact HK.out | apply KeepBut.set_ | apply keep_drewN | apply keep_drew | apply keep_alloc) | exact HK.out)) (KeepBut.of_below hb g none) (.inl rfl)); have n3_ := Aside0.mk (below_step (by repeat (first | (with_reducible first | exact HB.out | apply below_alloc | apply pw_below_drewN | apply below_drew1 | refine below_set ?_ (IsS133.ge HI0.out)) | exact HB.out)) hb); clear HI0 HK HB; have HO191 := n0_; have HI0 := n1_; have HK := n2_; have HB := n3_; clear n0_ n1_ n2_ n3_; clear hb ho5) | ((with_reducible refine gate_callee (f := 80) rfl ?_); refine goesL_ (some 9) rfl rfl Tryd.func80 (by kernel_rfl) rfl #[.pointer (some ⟨g, 0, none⟩), .int .i64 6] rfl (by (try simp only [List.map_toArray, List.map_cons, List.map_nil]); first | done | rfl | (simp only [List.length_drop, List.length_take]; rfl)) ?_; (with_reducible refine (spec_l20Rd_pick.calls k g s0_0 s0_1 6 t192 t193 w0 _ ?side1 ?side2 A3.out).mono ?_); (case side1 => repeat (first | (with_reducible first | exact HI0.out | apply IsS133.alloc | apply IsS133.drewN | apply IsS133.drew | apply IsS133.set_1) | exact HI0.out)); (case side2 => repeat (first | (with_reducible first | exact HB.out | apply below_alloc | apply pw_below_drewN | apply below_drew1 | refine below_set ?_ (IsS133.ge HI0.out)) | exact HB.out)); rintro e w6 ⟨rfl, hi, hb, hk⟩; refine ⟨_, rfl, ?_⟩; have n0_ := Aside0.mk (Kd.R_mono (Kd.R_keep (IsS133.apart (show IsS133 w0 _ g s0_0 s0_1 from by repeat (first | (with_reducible first | exact HI0.out | apply IsS133.alloc | apply IsS133.drewN | apply IsS133.drew | apply IsS133.set_1) | exact HI0.out)) (rk HO191) (by decide)) hk (fun _ h => h.2)) (fun _ h => h.1)); have n1_ := Aside0.mk (KeepBut.trans (by repeat (first | (with_reducible first | exact HK.out | apply KeepBut.set_ | apply keep_drewN | apply keep_drew | apply keep_alloc) | exact HK.out)) hk (.inl rfl)); have n2_ := Aside0.mk (hb); have n3_ := Aside0.mk (hi); clear HO191 HK HB HI0; have HO191 := n0_; have HK := n1_; have HB := n2_; have HI0 := n3_; clear n0_ n1_ n2_ n3_; (try clear hb); (try clear hb2); (try clear hk); (try clear hi)))
 go_loopg [5, 6] k (fun kq v5 v6 w' => ∃ (x5_1 : List (S70)) (x6_1 : Int) (x1001_1 : Int), v6 = .int .i64 x6_1 ∧ Aside0 (spec_l20Order.l0 kq a1 x5_1 x6_1 s0_0 x1001_1 = some (r1, r2)) ∧ Aside0 (kq ≤ k) ∧ Aside0 (Kd.R k70 70 w' w.heap.size (fun _ => True) v5 x5_1) ∧ Aside0 (IsS133 w0 w' g s0_0 x1001_1) ∧ Aside0 (KeepBut w w' g none) ∧ Aside0 (Below w0.heap.size w0 w'))
 case atStart => exact ⟨(y189), (t192), (t193), (by first | rfl | (simp; done) | (simp [*]; done)), H', ⟨Nat.le_refl _⟩, ⟨rk HO191⟩, ⟨by repeat (first | (with_reducible first | exact HI0.out | apply IsS133.alloc | apply IsS133.drewN | apply IsS133.drew | apply IsS133.set_1) | exact HI0.out)⟩, ⟨by repeat (first | (with_reducible first | exact HK.out | apply KeepBut.set_ | apply keep_drewN | apply keep_drew | apply keep_alloc) | exact HK.out)⟩, ⟨by repeat (first | (with_reducible first | exact HB.out | apply below_alloc | apply pw_below_drewN | apply below_drew1 | refine below_set ?_ (IsS133.ge HI0.out)) | exact HB.out)⟩⟩
 case round =>
  clear H'
  try clear c1
  try clear p2
  obtain ⟨x5_1, x6_1, x1001_1, rfl, HA, HK1, HO_5, HI0, HK, HB⟩ := hrel
  cases gk with
  | zero => exact absurd HA.out (by simp [spec_l20Order.l0])
  | succ k1 =>
   have H := HA.out
   clear HA
   simp only [spec_l20Order.l0] at H
   by_cases c7 : x6_1 > 0
   ·rw [if_pos c7] at H
    have c7b0 : decide (0 < x6_1) = true := decide_eq_true c7
    clear c7
    replace H := Option.bind_eq_some_iff.mp H
    obtain ⟨⟨t194, t195⟩, A80, H⟩ := H
    replace H : ((spec_l20Rd_pick.f k1 s0_0 t195 2).bind fun bt196 => (if x5_1.length < 8796093022208 then (spec_l20Order.l0 k1 a1 (x5_1 ++ [(⟨t194, (bt196.1 == 0)⟩ : S70)]) (wrap64 (x6_1 - 1)) s0_0 bt196.2) else (none))) = some (r1, r2) := H
    have A8 := Aside0.mk A80
    clear A80
    replace H := Option.bind_eq_some_iff.mp H
    obtain ⟨⟨t196, t197⟩, A90, H⟩ := H
    replace H : (if x5_1.length < 8796093022208 then (spec_l20Order.l0 k1 a1 (x5_1 ++ [(⟨t194, (t196 == 0)⟩ : S70)]) (wrap64 (x6_1 - 1)) s0_0 t197) else (none)) = some (r1, r2) := H
    have A9 := Aside0.mk A90
    clear A90
    by_cases c10 : x5_1.length < 8796093022208
    ·rw [if_pos c10] at H
     have LMc10 := Aside0.mk c10
     clear c10
     obtain ⟨y198, hy198⟩ : ∃ y_ : List (S70), y_ = (x5_1 ++ [(⟨t194, (t196 == 0)⟩ : S70)]) := ⟨_, rfl⟩
     replace H : (spec_l20Order.l0 k1 a1 y198 (wrap64 (x6_1 - 1)) s0_0 t197) = some (r1, r2) := by first | (rw [hy198]; with_reducible exact H) | (have H2_ := (Option.bind_some _ _).symm.trans H; rw [hy198]; with_reducible exact H2_) | (have H2_ := (Option.bind_some _ _).symm.trans H; with_reducible exact H2_) | with_reducible exact H | (rw [hy198]; exact H) | exact H
     have Ny198 := Aside0.mk hy198
     clear hy198
     have H' := Aside0.mk H
     clear H
     have TK0_ := Aside0.mk trivial
     go_wp2_with (first | (clear TK0_; (with_reducible refine gate_callee (f := 80) rfl ?_); refine goesL_ (some 16) rfl rfl Tryd.func80 (by kernel_rfl) rfl #[.pointer (some ⟨g, 0, none⟩), .int .i64 10] rfl (by (try simp only [List.map_toArray, List.map_cons, List.map_nil]); first | done | rfl | (simp only [List.length_drop, List.length_take]; rfl)) ?_; (with_reducible refine (spec_l20Rd_pick.calls k1 g s0_0 x1001_1 10 t194 t195 w0 _ ?side1 ?side2 A8.out).mono ?_); (case side1 => repeat (first | (with_reducible first | exact HI0.out | apply IsS133.alloc | apply IsS133.drewN | apply IsS133.drew | apply IsS133.set_1) | exact HI0.out)); (case side2 => repeat (first | (with_reducible first | exact HB.out | apply below_alloc | apply pw_below_drewN | apply below_drew1 | refine below_set ?_ (IsS133.ge HI0.out)) | exact HB.out)); rintro e w11 ⟨rfl, hi, hb, hk⟩; refine ⟨_, rfl, ?_⟩; have n0_ := Aside0.mk (Kd.R_mono (Kd.R_keep (IsS133.apart (show IsS133 w0 _ g s0_0 x1001_1 from by repeat (first | (with_reducible first | exact HI0.out | apply IsS133.alloc | apply IsS133.drewN | apply IsS133.drew | apply IsS133.set_1) | exact HI0.out)) (rk HO_5) (by decide)) hk (fun _ h => h.2)) (fun _ h => h.1)); have n1_ := Aside0.mk (KeepBut.trans (by repeat (first | (with_reducible first | exact HK.out | apply KeepBut.set_ | apply keep_drewN | apply keep_drew | apply keep_alloc) | exact HK.out)) hk (.inl rfl)); have n2_ := Aside0.mk (hb); have n3_ := Aside0.mk (hi); clear HO_5 HK HB HI0; have HO_5 := n0_; have HK := n1_; have HB := n2_; have HI0 := n3_; clear n0_ n1_ n2_ n3_; (try clear hb); (try clear hb2); (try clear hk); (try clear hi); have TK1_ := Aside0.mk trivial) | (clear TK1_; (with_reducible refine gate_callee (f := 80) rfl ?_); refine goesL_ (some 18) rfl rfl Tryd.func80 (by kernel_rfl) rfl #[.pointer (some ⟨g, 0, none⟩), .int .i64 2] rfl (by (try simp only [List.map_toArray, List.map_cons, List.map_nil]); first | done | rfl | (simp only [List.length_drop, List.length_take]; rfl)) ?_; (with_reducible refine (spec_l20Rd_pick.calls k1 g s0_0 t195 2 t196 t197 w0 _ ?side1 ?side2 A9.out).mono ?_); (case side1 => repeat (first | (with_reducible first | exact HI0.out | apply IsS133.alloc | apply IsS133.drewN | apply IsS133.drew | apply IsS133.set_1) | exact HI0.out)); (case side2 => repeat (first | (with_reducible first | exact HB.out | apply below_alloc | apply pw_below_drewN | apply below_drew1 | refine below_set ?_ (IsS133.ge HI0.out)) | exact HB.out)); rintro e w12 ⟨rfl, hi, hb, hk⟩; refine ⟨_, rfl, ?_⟩; have n0_ := Aside0.mk (Kd.R_mono (Kd.R_keep (IsS133.apart (show IsS133 w0 _ g s0_0 t195 from by repeat (first | (with_reducible first | exact HI0.out | apply IsS133.alloc | apply IsS133.drewN | apply IsS133.drew | apply IsS133.set_1) | exact HI0.out)) (rk HO_5) (by decide)) hk (fun _ h => h.2)) (fun _ h => h.1)); have n1_ := Aside0.mk (KeepBut.trans (by repeat (first | (with_reducible first | exact HK.out | apply KeepBut.set_ | apply keep_drewN | apply keep_drew | apply keep_alloc) | exact HK.out)) hk (.inl rfl)); have n2_ := Aside0.mk (hb); have n3_ := Aside0.mk (hi); clear HO_5 HK HB HI0; have HO_5 := n0_; have HK := n1_; have HB := n2_; have HI0 := n3_; clear n0_ n1_ n2_ n3_; (try clear hb); (try clear hb2); (try clear hk); (try clear hi); have TK2_ := Aside0.mk trivial) | (clear TK2_; (with_reducible refine gate_builtin (b := .append) (xs := #[.tmp 14, .tmp 21]) rfl ?_); at_builtin; refine Kd.R_append k70 w.heap.size rfl (.tmp 14) (.tmp 21) 66 70 (.agg #[(.int .i64 0), (.bool false)]) 16 rfl Tryd.underlying66 info70 rfl (by decide) (by omega) u5 x5_1 (⟨t194, (t196 == 0)⟩ : S70) [.int .i64 t194, .bool (t196 == 0)] (fun _ => True) (fun _ => False) rfl rfl ?aP (fun _ hk => by first | exact hk.elim | grind) ?aF ?aO (Below.refl _ _) ?aS ?aL ?_; (case aP => exact k70_mkM _ _ _ (⟨t194, (t196 == 0)⟩ : S70)); (case aF => exact (fun _ _ => trivial)); (case aO => exact (rk HO_5)); (case aS => exact (keep_size (w := w) (g := g) (row := none) (by repeat (first | (with_reducible first | exact HK.out | apply KeepBut.set_ | apply keep_drewN | apply keep_drew | apply keep_alloc) | exact HK.out)))); (case aL => have := LMc10.out; omega); intro v199 w13 ho hb hg hat; rw [← Ny198.out] at ho; have n0_ := Aside0.mk (IsS133.grown (by repeat (first | (with_reducible first | exact HI0.out | apply IsS133.alloc | apply IsS133.drewN | apply IsS133.drew | apply IsS133.set_1) | exact HI0.out)) hg (IsS133.own_ne HI0.out HO_5.out (by decide))); have n1_ := Aside0.mk (below_weaken (by repeat (first | (with_reducible first | exact HB.out | apply below_alloc | apply pw_below_drewN | apply below_drew1 | refine below_set ?_ (IsS133.ge HI0.out)) | exact HB.out)) HL.out hb); have n2_ := Aside0.mk (KeepBut.trans (by repeat (first | (with_reducible first | exact HK.out | apply KeepBut.set_ | apply keep_drewN | apply keep_drew | apply keep_alloc) | exact HK.out)) (KeepBut.of_grown hg g) (Kd.R_base2 HO_5.out)); have n3_ := Aside0.mk (ho); clear HI0 HB HK HO_5; have HI0 := n0_; have HB := n1_; have HK := n2_; have HO200 := n3_; clear n0_ n1_ n2_ n3_; clear ho hb hg hat; have TK3_ := Aside0.mk trivial))
     go_roundg k1
     case measure => have := HK1.out; omega
     case rel => exact ⟨(y198), (wrap64 (x6_1 - 1)), (t197), (by first | rfl | (simp; done) | (simp [*]; done)), H', ⟨by have := HK1.out; omega⟩, ⟨rk HO200⟩, ⟨by repeat (first | (with_reducible first | exact HI0.out | apply IsS133.alloc | apply IsS133.drewN | apply IsS133.drew | apply IsS133.set_1) | exact HI0.out)⟩, ⟨by repeat (first | (with_reducible first | exact HK.out | apply KeepBut.set_ | apply keep_drewN | apply keep_drew | apply keep_alloc) | exact HK.out)⟩, ⟨by repeat (first | (with_reducible first | exact HB.out | apply below_alloc | apply pw_below_drewN | apply below_drew1 | refine below_set ?_ (IsS133.ge HI0.out)) | exact HB.out)⟩⟩
    ·rw [if_neg c10] at H
     exact absurd H (by simp)
   ·rw [if_neg c7] at H
    have c7b0 : decide (0 < x6_1) = false := decide_eq_false c7
    clear c7
    replace H := Option.bind_eq_some_iff.mp H
    obtain ⟨⟨t201, t202⟩, A140, H⟩ := H
    replace H : (if t201 = true then ((spec_l20Rd_pick.f k1 s0_0 t202 2).bind fun bt203 => (if bt203.1 = 0 then (if 13 ≤ 17592186044416 then (some ((List.replicate 13 z70), bt203.2)) else (none)) else ((some (([(-1), 10] : List Int) : List Int)).bind fun y208 => ((spec_l20Rd_pick.f k1 s0_0 bt203.2 2).bind fun bt211 => (if 0 ≤ bt211.1 then (if bt211.1 < (y208.length : Int) then (if x5_1.length < 8796093022208 then (some ((x5_1 ++ [(⟨rd y208 bt211.1, false⟩ : S70)]), bt211.2)) else (none)) else (none)) else (none)))))) else (some (x5_1, t202))) = some (r1, r2) := H
    have A14 := Aside0.mk A140
    clear A140
    by_cases c15 : t201 = true
    ·subst c15
     have H1 : ((spec_l20Rd_pick.f k1 s0_0 t202 2).bind fun bt203 => (if bt203.1 = 0 then (if 13 ≤ 17592186044416 then (some ((List.replicate 13 z70), bt203.2)) else (none)) else ((some (([(-1), 10] : List Int) : List Int)).bind fun y208 => ((spec_l20Rd_pick.f k1 s0_0 bt203.2 2).bind fun bt211 => (if 0 ≤ bt211.1 then (if bt211.1 < (y208.length : Int) then (if x5_1.length < 8796093022208 then (some ((x5_1 ++ [(⟨rd y208 bt211.1, false⟩ : S70)]), bt211.2)) else (none)) else (none)) else (none)))))) = some (r1, r2) := by rw [if_pos rfl] at H; exact H
     clear H
     have H := H1
     clear H1
     replace H := Option.bind_eq_some_iff.mp H
     obtain ⟨⟨t203, t204⟩, A160, H⟩ := H
     replace H : (if t203 = 0 then (if 13 ≤ 17592186044416 then (some ((List.replicate 13 z70), t204)) else (none)) else ((some (([(-1), 10] : List Int) : List Int)).bind fun y208 => ((spec_l20Rd_pick.f k1 s0_0 t204 2).bind fun bt211 => (if 0 ≤ bt211.1 then (if bt211.1 < (y208.length : Int) then (if x5_1.length < 8796093022208 then (some ((x5_1 ++ [(⟨rd y208 bt211.1, false⟩ : S70)]), bt211.2)) else (none)) else (none)) else (none))))) = some (r1, r2) := H
     have A16 := Aside0.mk A160
     clear A160
     by_cases c17 : t203 = 0
     ·rw [if_pos c17] at H
      have c17b0 : (t203 == 0) = true := beq_iff_eq.mpr c17
      have c17b1 : (t203 != 0) = false := bne_eq_false_iff_eq.mpr c17
      clear c17
      by_cases c18 : 13 ≤ 17592186044416
      ·rw [if_pos c18] at H
       have c18b0 := eq_true c18
       have c18b1 : decide (13 ≤ 17592186044416) = true := decide_eq_true c18
       clear c18
       obtain ⟨y205, hy205⟩ : ∃ y_ : List (S70), y_ = (List.replicate 13 z70) := ⟨_, rfl⟩
       replace H : (some (y205, t204)) = some (r1, r2) := by first | (rw [hy205]; with_reducible exact H) | (have H2_ := (Option.bind_some _ _).symm.trans H; rw [hy205]; with_reducible exact H2_) | (have H2_ := (Option.bind_some _ _).symm.trans H; with_reducible exact H2_) | with_reducible exact H | (rw [hy205]; exact H) | exact H
       have Ny205 := Aside0.mk hy205
       clear hy205
       simp only [Option.some.injEq, Prod.mk.injEq] at H
       obtain ⟨rfl, rfl⟩ := H
       have TK0_ := Aside0.mk trivial
       go_wp2_with (first | (clear TK0_; (with_reducible refine gate_callee (f := 130) rfl ?_); refine goesL_ (some 25) rfl rfl Tryd.func130 (by kernel_rfl) rfl #[.pointer (some ⟨g, 0, none⟩), .int .i64 a1] rfl (by (try simp only [List.map_toArray, List.map_cons, List.map_nil]); first | done | rfl | (simp only [List.length_drop, List.length_take]; rfl)) ?_; (with_reducible refine (spec_l20Rd_odd.calls k1 g s0_0 x1001_1 a1 true t202 w0 _ ?side1 ?side2 A14.out).mono ?_); (case side1 => repeat (first | (with_reducible first | exact HI0.out | apply IsS133.alloc | apply IsS133.drewN | apply IsS133.drew | apply IsS133.set_1) | exact HI0.out)); (case side2 => repeat (first | (with_reducible first | exact HB.out | apply below_alloc | apply pw_below_drewN | apply below_drew1 | refine below_set ?_ (IsS133.ge HI0.out)) | exact HB.out)); rintro e w19 ⟨rfl, hi, hb, hk⟩; refine ⟨_, rfl, ?_⟩; have n0_ := Aside0.mk (Kd.R_mono (Kd.R_keep (IsS133.apart (show IsS133 w0 _ g s0_0 x1001_1 from by repeat (first | (with_reducible first | exact HI0.out | apply IsS133.alloc | apply IsS133.drewN | apply IsS133.drew | apply IsS133.set_1) | exact HI0.out)) (rk HO_5) (by decide)) hk (fun _ h => h.2)) (fun _ h => h.1)); have n1_ := Aside0.mk (KeepBut.trans (by repeat (first | (with_reducible first | exact HK.out | apply KeepBut.set_ | apply keep_drewN | apply keep_drew | apply keep_alloc) | exact HK.out)) hk (.inl rfl)); have n2_ := Aside0.mk (hb); have n3_ := Aside0.mk (hi); clear HO_5 HK HB HI0; have HO_5 := n0_; have HK := n1_; have HB := n2_; have HI0 := n3_; clear n0_ n1_ n2_ n3_; (try clear hb); (try clear hb2); (try clear hk); (try clear hi); have TK1_ := Aside0.mk trivial) | (clear TK1_; (with_reducible refine gate_callee (f := 80) rfl ?_); refine goesL_ (some 27) rfl rfl Tryd.func80 (by kernel_rfl) rfl #[.pointer (some ⟨g, 0, none⟩), .int .i64 2] rfl (by (try simp only [List.map_toArray, List.map_cons, List.map_nil]); first | done | rfl | (simp only [List.length_drop, List.length_take]; rfl)) ?_; (with_reducible refine (spec_l20Rd_pick.calls k1 g s0_0 t202 2 t203 t204 w0 _ ?side1 ?side2 A16.out).mono ?_); (case side1 => repeat (first | (with_reducible first | exact HI0.out | apply IsS133.alloc | apply IsS133.drewN | apply IsS133.drew | apply IsS133.set_1) | exact HI0.out)); (case side2 => repeat (first | (with_reducible first | exact HB.out | apply below_alloc | apply pw_below_drewN | apply below_drew1 | refine below_set ?_ (IsS133.ge HI0.out)) | exact HB.out)); rintro e w20 ⟨rfl, hi, hb, hk⟩; refine ⟨_, rfl, ?_⟩; have n0_ := Aside0.mk (Kd.R_mono (Kd.R_keep (IsS133.apart (show IsS133 w0 _ g s0_0 t202 from by repeat (first | (with_reducible first | exact HI0.out | apply IsS133.alloc | apply IsS133.drewN | apply IsS133.drew | apply IsS133.set_1) | exact HI0.out)) (rk HO_5) (by decide)) hk (fun _ h => h.2)) (fun _ h => h.1)); have n1_ := Aside0.mk (KeepBut.trans (by repeat (first | (with_reducible first | exact HK.out | apply KeepBut.set_ | apply keep_drewN | apply keep_drew | apply keep_alloc) | exact HK.out)) hk (.inl rfl)); have n2_ := Aside0.mk (hb); have n3_ := Aside0.mk (hi); clear HO_5 HK HB HI0; have HO_5 := n0_; have HK := n1_; have HB := n2_; have HI0 := n3_; clear n0_ n1_ n2_ n3_; (try clear hb); (try clear hb2); (try clear hk); (try clear hi); have TK2_ := Aside0.mk trivial) | (clear TK2_; (with_reducible refine gate_dst (N := 29) rfl ?_); refine Kd.R_make k70 _ 70 rfl (N := 29) rfl 66 _ _ rfl 13 rfl rfl Tryd.underlying66 (.agg #[(.int .i64 0), (.bool false)]) 16 info70 rfl (by decide) (by omega) z70 (ok := fun _ => True) (okp := fun _ => True) (k70_mkM _ _ _ z70 ) (fun _ hk => by first | exact hk | grind) trivial (by omega) (by omega) (Below.refl _ _) (Nat.le_refl _) ?_; intro v206 w21 ho22 hb hg_ hnew_; clear hg_ hnew_; (first | rw [← Ny205.out] at ho22 | (simp only [Int.reduceToNat] at ho22; rw [← Ny205.out] at ho22)); have n0_ := Aside0.mk (Kd.R_elder' (rk HO_5) (Kd.R_base ho22) hb); have n1_ := Aside0.mk (Kd.R_lower (Kd.R_new' ho22 (Kd.R_lt (rk HO_5))) (keep_size (w := w) (g := g) (row := none) (by repeat (first | (with_reducible first | exact HK.out | apply KeepBut.set_ | apply keep_drewN | apply keep_drew | apply keep_alloc) | exact HK.out)))); have n2_ := Aside0.mk (IsS133.below (by repeat (first | (with_reducible first | exact HI0.out | apply IsS133.alloc | apply IsS133.drewN | apply IsS133.drew | apply IsS133.set_1) | exact HI0.out)) hb); have n3_ := Aside0.mk (KeepBut.trans (by repeat (first | (with_reducible first | exact HK.out | apply KeepBut.set_ | apply keep_drewN | apply keep_drew | apply keep_alloc) | exact HK.out)) (KeepBut.of_below hb g none) (.inl rfl)); have n4_ := Aside0.mk (below_step (by repeat (first | (with_reducible first | exact HB.out | apply below_alloc | apply pw_below_drewN | apply below_drew1 | refine below_set ?_ (IsS133.ge HI0.out)) | exact HB.out)) hb); clear HO_5 HI0 HK HB; have HO_5 := n0_; have HO207 := n1_; have HI0 := n2_; have HK := n3_; have HB := n4_; clear n0_ n1_ n2_ n3_ n4_; clear hb ho22; have TK3_ := Aside0.mk trivial))
       go_ret
       exact ⟨_, by first | rfl | (simp [errW_none, errW_some] <;> rfl) | (simp [*, errW_none, errW_some] <;> rfl), by (with_reducible repeat (first | apply Kd.R_alloc | apply Kd.R_drewN | apply Kd.R_drew)); exact Kd.R_mono HO207.out (fun _ hk => trivial), by repeat (first | (with_reducible first | exact HI0.out | apply IsS133.alloc | apply IsS133.drewN | apply IsS133.drew | apply IsS133.set_1) | exact HI0.out), by repeat (first | (with_reducible first | exact HB.out | apply below_alloc | apply pw_below_drewN | apply below_drew1 | refine below_set ?_ (IsS133.ge HI0.out)) | exact HB.out), by repeat (first | (with_reducible first | exact HK.out | apply KeepBut.set_ | apply keep_drewN | apply keep_drew | apply keep_alloc) | exact HK.out)⟩
      ·rw [if_neg c18] at H
       exact absurd H (by simp)
     ·rw [if_neg c17] at H
      have c17b0 : (t203 == 0) = false := beq_eq_false_iff_ne.mpr c17
      have c17b1 : (t203 != 0) = true := bne_iff_ne.mpr c17
      obtain ⟨y208, hy208⟩ : ∃ y_ : List Int, y_ = (([(-1), 10] : List Int)) := ⟨_, rfl⟩
      replace H : ((spec_l20Rd_pick.f k1 s0_0 t204 2).bind fun bt211 => (if 0 ≤ bt211.1 then (if bt211.1 < (y208.length : Int) then (if x5_1.length < 8796093022208 then (some ((x5_1 ++ [(⟨rd y208 bt211.1, false⟩ : S70)]), bt211.2)) else (none)) else (none)) else (none))) = some (r1, r2) := by first | (rw [hy208]; with_reducible exact H) | (have H2_ := (Option.bind_some _ _).symm.trans H; rw [hy208]; with_reducible exact H2_) | (have H2_ := (Option.bind_some _ _).symm.trans H; with_reducible exact H2_) | with_reducible exact H | (rw [hy208]; exact H) | exact H
      have Ny208 := Aside0.mk hy208
      clear hy208
      replace H := Option.bind_eq_some_iff.mp H
      obtain ⟨⟨t211, t212⟩, A230, H⟩ := H
      replace H : (if 0 ≤ t211 then (if t211 < (y208.length : Int) then (if x5_1.length < 8796093022208 then (some ((x5_1 ++ [(⟨rd y208 t211, false⟩ : S70)]), t212)) else (none)) else (none)) else (none)) = some (r1, r2) := H
      have A23 := Aside0.mk A230
      clear A230
      by_cases c24 : 0 ≤ t211
      ·rw [if_pos c24] at H
       have c24b0 : decide (0 ≤ t211) = true := decide_eq_true c24
       clear c24
       by_cases c25 : t211 < (y208.length : Int)
       ·rw [if_pos c25] at H
        have c25b0 : decide (t211 < (y208.length : Int)) = true := decide_eq_true c25
        clear c25
        by_cases c26 : x5_1.length < 8796093022208
        ·rw [if_pos c26] at H
         have LMc26 := Aside0.mk c26
         clear c26
         obtain ⟨y214, hy214⟩ : ∃ y_ : List (S70), y_ = (x5_1 ++ [(⟨rd y208 t211, false⟩ : S70)]) := ⟨_, rfl⟩
         replace H : (some (y214, t212)) = some (r1, r2) := by first | (rw [hy214]; with_reducible exact H) | (have H2_ := (Option.bind_some _ _).symm.trans H; rw [hy214]; with_reducible exact H2_) | (have H2_ := (Option.bind_some _ _).symm.trans H; with_reducible exact H2_) | with_reducible exact H | (rw [hy214]; exact H) | exact H
         have Ny214 := Aside0.mk hy214
         clear hy214
         simp only [Option.some.injEq, Prod.mk.injEq] at H
         obtain ⟨rfl, rfl⟩ := H
         have TK0_ := Aside0.mk trivial
         go_wp2_with (first | (clear TK0_; (with_reducible refine gate_callee (f := 130) rfl ?_); refine goesL_ (some 25) rfl rfl Tryd.func130 (by kernel_rfl) rfl #[.pointer (some ⟨g, 0, none⟩), .int .i64 a1] rfl (by (try simp only [List.map_toArray, List.map_cons, List.map_nil]); first | done | rfl | (simp only [List.length_drop, List.length_take]; rfl)) ?_; (with_reducible refine (spec_l20Rd_odd.calls k1 g s0_0 x1001_1 a1 true t202 w0 _ ?side1 ?side2 A14.out).mono ?_); (case side1 => repeat (first | (with_reducible first | exact HI0.out | apply IsS133.alloc | apply IsS133.drewN | apply IsS133.drew | apply IsS133.set_1) | exact HI0.out)); (case side2 => repeat (first | (with_reducible first | exact HB.out | apply below_alloc | apply pw_below_drewN | apply below_drew1 | refine below_set ?_ (IsS133.ge HI0.out)) | exact HB.out)); rintro e w27 ⟨rfl, hi, hb, hk⟩; refine ⟨_, rfl, ?_⟩; have n0_ := Aside0.mk (Kd.R_mono (Kd.R_keep (IsS133.apart (show IsS133 w0 _ g s0_0 x1001_1 from by repeat (first | (with_reducible first | exact HI0.out | apply IsS133.alloc | apply IsS133.drewN | apply IsS133.drew | apply IsS133.set_1) | exact HI0.out)) (rk HO_5) (by decide)) hk (fun _ h => h.2)) (fun _ h => h.1)); have n1_ := Aside0.mk (KeepBut.trans (by repeat (first | (with_reducible first | exact HK.out | apply KeepBut.set_ | apply keep_drewN | apply keep_drew | apply keep_alloc) | exact HK.out)) hk (.inl rfl)); have n2_ := Aside0.mk (hb); have n3_ := Aside0.mk (hi); clear HO_5 HK HB HI0; have HO_5 := n0_; have HK := n1_; have HB := n2_; have HI0 := n3_; clear n0_ n1_ n2_ n3_; (try clear hb); (try clear hb2); (try clear hk); (try clear hi); have TK1_ := Aside0.mk trivial) | (clear TK1_; (with_reducible refine gate_callee (f := 80) rfl ?_); refine goesL_ (some 27) rfl rfl Tryd.func80 (by kernel_rfl) rfl #[.pointer (some ⟨g, 0, none⟩), .int .i64 2] rfl (by (try simp only [List.map_toArray, List.map_cons, List.map_nil]); first | done | rfl | (simp only [List.length_drop, List.length_take]; rfl)) ?_; (with_reducible refine (spec_l20Rd_pick.calls k1 g s0_0 t202 2 t203 t204 w0 _ ?side1 ?side2 A16.out).mono ?_); (case side1 => repeat (first | (with_reducible first | exact HI0.out | apply IsS133.alloc | apply IsS133.drewN | apply IsS133.drew | apply IsS133.set_1) | exact HI0.out)); (case side2 => repeat (first | (with_reducible first | exact HB.out | apply below_alloc | apply pw_below_drewN | apply below_drew1 | refine below_set ?_ (IsS133.ge HI0.out)) | exact HB.out)); rintro e w28 ⟨rfl, hi, hb, hk⟩; refine ⟨_, rfl, ?_⟩; have n0_ := Aside0.mk (Kd.R_mono (Kd.R_keep (IsS133.apart (show IsS133 w0 _ g s0_0 t202 from by repeat (first | (with_reducible first | exact HI0.out | apply IsS133.alloc | apply IsS133.drewN | apply IsS133.drew | apply IsS133.set_1) | exact HI0.out)) (rk HO_5) (by decide)) hk (fun _ h => h.2)) (fun _ h => h.1)); have n1_ := Aside0.mk (KeepBut.trans (by repeat (first | (with_reducible first | exact HK.out | apply KeepBut.set_ | apply keep_drewN | apply keep_drew | apply keep_alloc) | exact HK.out)) hk (.inl rfl)); have n2_ := Aside0.mk (hb); have n3_ := Aside0.mk (hi); clear HO_5 HK HB HI0; have HO_5 := n0_; have HK := n1_; have HB := n2_; have HI0 := n3_; clear n0_ n1_ n2_ n3_; (try clear hb); (try clear hb2); (try clear hk); (try clear hi); have TK2_ := Aside0.mk trivial) | (clear TK2_; (with_reducible refine gate_dst (N := 31) rfl ?_); refine Kd.R_lit (Kd.int .i64) _ 3 ?hg (N := 31) ?hd (xs := ([(-1), 10] : List Int)) (inner := [.int .i64 (-1), .int .i64 10]) (ok := fun _ => True) (okp := fun _ => True) ?hr ?hp (fun _ hk => by first | exact hk | grind) trivial (Below.refl _ _) (Nat.le_refl _) (by simp) ?_; (case hd => rfl); (case hg => rfl); (case hr => first | (go_simp; done) | (go_simp; rfl)); (case hp => exact (Reps.one (show Kd.M (Kd.int .i64) _ _ _ (-1) [.int .i64 (-1)] from rfl) (Reps.one (show Kd.M (Kd.int .i64) _ _ _ 10 [.int .i64 10] from rfl) (Reps.none _ _)))); intro v209 w29 ho30 hb hg_ hnew_; clear hg_ hnew_; (first | rw [← Ny208.out] at ho30 | (simp only [Int.reduceToNat] at ho30; rw [← Ny208.out] at ho30)); have n0_ := rB HO_5 hb; have n1_ := Aside0.mk (Kd.R_lower ho30 (keep_size (w := w) (g := g) (row := none) (by repeat (first | (with_reducible first | exact HK.out | apply KeepBut.set_ | apply keep_drewN | apply keep_drew | apply keep_alloc) | exact HK.out)))); have n2_ := Aside0.mk (IsS133.below (by repeat (first | (with_reducible first | exact HI0.out | apply IsS133.alloc | apply IsS133.drewN | apply IsS133.drew | apply IsS133.set_1) | exact HI0.out)) hb); have n3_ := Aside0.mk (KeepBut.trans (by repeat (first | (with_reducible first | exact HK.out | apply KeepBut.set_ | apply keep_drewN | apply keep_drew | apply keep_alloc) | exact HK.out)) (KeepBut.of_below hb g none) (.inl rfl)); have n4_ := Aside0.mk (below_step (by repeat (first | (with_reducible first | exact HB.out | apply below_alloc | apply pw_below_drewN | apply below_drew1 | refine below_set ?_ (IsS133.ge HI0.out)) | exact HB.out)) hb); clear HO_5 HI0 HK HB; have HO_5 := n0_; have HO210 := n1_; have HI0 := n2_; have HK := n3_; have HB := n4_; clear n0_ n1_ n2_ n3_ n4_; clear hb ho30; have TK3_ := Aside0.mk trivial) | (clear TK3_; (with_reducible refine gate_callee (f := 80) rfl ?_); refine goesL_ (some 33) rfl rfl Tryd.func80 (by kernel_rfl) rfl #[.pointer (some ⟨g, 0, none⟩), .int .i64 2] rfl (by (try simp only [List.map_toArray, List.map_cons, List.map_nil]); first | done | rfl | (simp only [List.length_drop, List.length_take]; rfl)) ?_; (with_reducible refine (spec_l20Rd_pick.calls k1 g s0_0 t204 2 t211 t212 w0 _ ?side1 ?side2 A23.out).mono ?_); (case side1 => repeat (first | (with_reducible first | exact HI0.out | apply IsS133.alloc | apply IsS133.drewN | apply IsS133.drew | apply IsS133.set_1) | exact HI0.out)); (case side2 => repeat (first | (with_reducible first | exact HB.out | apply below_alloc | apply pw_below_drewN | apply below_drew1 | refine below_set ?_ (IsS133.ge HI0.out)) | exact HB.out)); rintro e w31 ⟨rfl, hi, hb, hk⟩; refine ⟨_, rfl, ?_⟩; have n0_ := Aside0.mk (Kd.R_mono (Kd.R_keep (IsS133.apart (show IsS133 w0 _ g s0_0 t204 from by repeat (first | (with_reducible first | exact HI0.out | apply IsS133.alloc | apply IsS133.drewN | apply IsS133.drew | apply IsS133.set_1) | exact HI0.out)) (rk HO_5) (by decide)) hk (fun _ h => h.2)) (fun _ h => h.1)); have n1_ := Aside0.mk (Kd.R_mono (Kd.R_keep (IsS133.apart (show IsS133 w0 _ g s0_0 t204 from by repeat (first | (with_reducible first | exact HI0.out | apply IsS133.alloc | apply IsS133.drewN | apply IsS133.drew | apply IsS133.set_1) | exact HI0.out)) (rk HO210) (by decide)) hk (fun _ h => h.2)) (fun _ h => h.1)); have n2_ := Aside0.mk (KeepBut.trans (by repeat (first | (with_reducible first | exact HK.out | apply KeepBut.set_ | apply keep_drewN | apply keep_drew | apply keep_alloc) | exact HK.out)) hk (.inl rfl)); have n3_ := Aside0.mk (hb); have n4_ := Aside0.mk (hi); clear HO_5 HO210 HK HB HI0; have HO_5 := n0_; have HO210 := n1_; have HK := n2_; have HB := n3_; have HI0 := n4_; clear n0_ n1_ n2_ n3_ n4_; (try clear hb); (try clear hb2); (try clear hk); (try clear hi); obtain ⟨Ao32, co32, eo32⟩ := Kd.R_slice HO210.out; subst eo32; have p213 : 0 ≤ (t211 : Int) := of_decide_eq_true (by first | (with_reducible assumption) | assumption); have q213 : t211 < (y208.length : Int) := of_decide_eq_true (by first | (with_reducible assumption) | assumption); obtain ⟨ad213, e213, hx213_0⟩ := Kd.at_int (Kd.R_reads' HO210.out).2.2 t211 p213 q213; cases e213; replace p213 := eq_true p213; replace q213 := eq_true q213; have TK4_ := Aside0.mk trivial) | (clear TK4_; (with_reducible refine gate_builtin (b := .append) (xs := #[.tmp 30, .tmp 37]) rfl ?_); at_builtin; refine Kd.R_append k70 w.heap.size rfl (.tmp 30) (.tmp 37) 66 70 (.agg #[(.int .i64 0), (.bool false)]) 16 rfl Tryd.underlying66 info70 rfl (by decide) (by omega) u5 x5_1 (⟨rd y208 t211, false⟩ : S70) [.int .i64 (rd y208 t211), .bool false] (fun _ => True) (fun _ => False) rfl rfl ?aP (fun _ hk => by first | exact hk.elim | grind) ?aF ?aO (Below.refl _ _) ?aS ?aL ?_; (case aP => exact k70_mkM _ _ _ (⟨rd y208 t211, false⟩ : S70)); (case aF => exact (fun _ _ => trivial)); (case aO => exact (rk HO_5)); (case aS => exact (keep_size (w := w) (g := g) (row := none) (by repeat (first | (with_reducible first | exact HK.out | apply KeepBut.set_ | apply keep_drewN | apply keep_drew | apply keep_alloc) | exact HK.out)))); (case aL => have := LMc26.out; omega); intro v215 w33 ho hb hg hat; rw [← Ny214.out] at ho; have n0_ := Aside0.mk (IsS133.grown (by repeat (first | (with_reducible first | exact HI0.out | apply IsS133.alloc | apply IsS133.drewN | apply IsS133.drew | apply IsS133.set_1) | exact HI0.out)) hg (IsS133.own_ne HI0.out HO_5.out (by decide))); have n1_ := Aside0.mk (Kd.R_over' (rk HO210) (Kd.R_typed (rk HO_5)) (by decide) hg); have n2_ := Aside0.mk (below_weaken (by repeat (first | (with_reducible first | exact HB.out | apply below_alloc | apply pw_below_drewN | apply below_drew1 | refine below_set ?_ (IsS133.ge HI0.out)) | exact HB.out)) HL.out hb); have n3_ := Aside0.mk (KeepBut.trans (by repeat (first | (with_reducible first | exact HK.out | apply KeepBut.set_ | apply keep_drewN | apply keep_drew | apply keep_alloc) | exact HK.out)) (KeepBut.of_grown hg g) (Kd.R_base2 HO_5.out)); have n4_ := Aside0.mk (ho); clear HI0 HO210 HB HK HO_5; have HI0 := n0_; have HO210 := n1_; have HB := n2_; have HK := n3_; have HO216 := n4_; clear n0_ n1_ n2_ n3_ n4_; clear ho hb hg hat; have TK5_ := Aside0.mk trivial))
         go_ret
         exact ⟨_, by first | rfl | (simp [errW_none, errW_some] <;> rfl) | (simp [*, errW_none, errW_some] <;> rfl), rk HO216, by repeat (first | (with_reducible first | exact HI0.out | apply IsS133.alloc | apply IsS133.drewN | apply IsS133.drew | apply IsS133.set_1) | exact HI0.out), by repeat (first | (with_reducible first | exact HB.out | apply below_alloc | apply pw_below_drewN | apply below_drew1 | refine below_set ?_ (IsS133.ge HI0.out)) | exact HB.out), by repeat (first | (with_reducible first | exact HK.out | apply KeepBut.set_ | apply keep_drewN | apply keep_drew | apply keep_alloc) | exact HK.out)⟩
        ·rw [if_neg c26] at H
         exact absurd H (by simp)
       ·rw [if_neg c25] at H
        exact absurd H (by simp)
      ·rw [if_neg c24] at H
       exact absurd H (by simp)
    ·replace c15 := Bool.eq_false_iff.mpr c15
     subst c15
     have H1 : (some (x5_1, t202)) = some (r1, r2) := by rw [if_neg (show ¬ (false = true) by decide)] at H; exact H
     clear H
     have H := H1
     clear H1
     simp only [Option.some.injEq, Prod.mk.injEq] at H
     obtain ⟨rfl, rfl⟩ := H
     go_wp2_with (first | ((with_reducible refine gate_callee (f := 130) rfl ?_); refine goesL_ (some 25) rfl rfl Tryd.func130 (by kernel_rfl) rfl #[.pointer (some ⟨g, 0, none⟩), .int .i64 a1] rfl (by (try simp only [List.map_toArray, List.map_cons, List.map_nil]); first | done | rfl | (simp only [List.length_drop, List.length_take]; rfl)) ?_; (with_reducible refine (spec_l20Rd_odd.calls k1 g s0_0 x1001_1 a1 false t202 w0 _ ?side1 ?side2 A14.out).mono ?_); (case side1 => repeat (first | (with_reducible first | exact HI0.out | apply IsS133.alloc | apply IsS133.drewN | apply IsS133.drew | apply IsS133.set_1) | exact HI0.out)); (case side2 => repeat (first | (with_reducible first | exact HB.out | apply below_alloc | apply pw_below_drewN | apply below_drew1 | refine below_set ?_ (IsS133.ge HI0.out)) | exact HB.out)); rintro e w34 ⟨rfl, hi, hb, hk⟩; refine ⟨_, rfl, ?_⟩; have n0_ := Aside0.mk (Kd.R_mono (Kd.R_keep (IsS133.apart (show IsS133 w0 _ g s0_0 x1001_1 from by repeat (first | (with_reducible first | exact HI0.out | apply IsS133.alloc | apply IsS133.drewN | apply IsS133.drew | apply IsS133.set_1) | exact HI0.out)) (rk HO_5) (by decide)) hk (fun _ h => h.2)) (fun _ h => h.1)); have n1_ := Aside0.mk (KeepBut.trans (by repeat (first | (with_reducible first | exact HK.out | apply KeepBut.set_ | apply keep_drewN | apply keep_drew | apply keep_alloc) | exact HK.out)) hk (.inl rfl)); have n2_ := Aside0.mk (hb); have n3_ := Aside0.mk (hi); clear HO_5 HK HB HI0; have HO_5 := n0_; have HK := n1_; have HB := n2_; have HI0 := n3_; clear n0_ n1_ n2_ n3_; (try clear hb); (try clear hb2); (try clear hk); (try clear hi)))
     go_ret
     exact ⟨_, by first | rfl | (simp [errW_none, errW_some] <;> rfl) | (simp [*, errW_none, errW_some] <;> rfl), rk HO_5, by repeat (first | (with_reducible first | exact HI0.out | apply IsS133.alloc | apply IsS133.drewN | apply IsS133.drew | apply IsS133.set_1) | exact HI0.out), by repeat (first | (with_reducible first | exact HB.out | apply below_alloc | apply pw_below_drewN | apply below_drew1 | refine below_set ?_ (IsS133.ge HI0.out)) | exact HB.out), by repeat (first | (with_reducible first | exact HK.out | apply KeepBut.set_ | apply keep_drewN | apply keep_drew | apply keep_alloc) | exact HK.out)⟩

/-! ### spec_DrawOrderValid: function 48 -/
def spec_DrawOrderValid.f (k : Nat) (l0 : List Int) : Option ((List (S70))) := (spec_l20Open.f l0).bind fun bt217 => ((spec_l20Order.f k bt217.1 bt217.2 2).bind fun bt220 => (some bt220.1))
theorem spec_DrawOrderValid.mono : ∀ a0 k, LeO (spec_DrawOrderValid.f k a0) (spec_DrawOrderValid.f (k + 1) a0) := by
 intro a0 k
 unfold spec_DrawOrderValid.f
 repeat' first
   | (with_reducible exact spec_l20Order.mono _ _ _ _)
   | (with_reducible exact LeO.refl _)
   | (with_reducible exact LeO.none _)
   | (with_reducible refine LeO.ite ?_ ?_)
   | (with_reducible refine LeO.bind ?_ (fun _ => ?_))
   | exact spec_l20Order.mono _ _ _ _
   | exact LeO.none _
   | refine LeO.ite ?_ ?_
   | refine LeO.bind ?_ (fun _ => ?_)
set_option maxHeartbeats 8000000 in
set_option maxRecDepth 100000 in
theorem spec_DrawOrderValid.calls (k : Nat) (A0 : Option Addr) (c0 : Nat) (l0 : List Int) (r : List (S70)) (w : World) (hr0 : Kd.C (Kd.int .u8) w A0 l0.length l0) (hc0 : l0.length ≤ c0) (h : spec_DrawOrderValid.f k l0 = some r) :
  Calls Tryd.prog 48 #[.slice A0 l0.length c0] w fun e w' => ∃ v0_ : Value, e = .returned (v0_) ∧ Kd.R k70 70 w' w.heap.size (fun _ => True) v0_ r ∧ Below w.heap.size w w' := by
 have HR0 := Aside0.mk hr0
 have HC0 := Aside0.mk hc0
 clear hr0 hc0
 have HB := Aside0.mk (Below.refl w.heap.size w)
 have H : ((spec_l20Open.f l0).bind fun bt217 => ((spec_l20Order.f k bt217.1 bt217.2 2).bind fun bt220 => (some bt220.1))) = some r := h
 clear h
 replace H := Option.bind_eq_some_iff.mp H
 obtain ⟨⟨t217, t218⟩, A20, H⟩ := H
 replace H : ((spec_l20Order.f k t217 t218 2).bind fun bt220 => (some bt220.1)) = some r := H
 have A2 := Aside0.mk A20
 clear A20
 replace H := Option.bind_eq_some_iff.mp H
 obtain ⟨⟨t220, t223⟩, A30, H⟩ := H
 replace H : (some t220) = some r := H
 have A3 := Aside0.mk A30
 clear A30
 obtain rfl := Option.some.inj H
 go_enter Tryd.func48, Tryd.ntmps48
 go_wp2_with (first | ((with_reducible refine gate_callee (f := 68) rfl ?_); refine goesL_ (some 4) rfl rfl Tryd.func68 (by kernel_rfl) rfl #[.slice A0 l0.length c0] rfl (by (try simp only [List.map_toArray, List.map_cons, List.map_nil]); first | done | rfl | (simp only [List.length_drop, List.length_take]; rfl)) ?_; (with_reducible refine (spec_l20Open.calls _ _ l0 t217 t218 w _ ?side1 ?side2 ?side3 A2.out).mono ?_); (case side1 => exact bw); (case side2 => exact HR0.out); (case side3 => exact HC0.out); rintro e w4 ⟨g219, rfl, hi, hb, hb2⟩; refine ⟨_, rfl, ?_⟩; have n0_ := Aside0.mk (hb); have n1_ := Aside0.mk (hi); clear HB; have HB := n0_; have HI219 := n1_; clear n0_ n1_; (try clear hb); (try clear hb2); (try clear hk); (try clear hi)) | ((with_reducible refine gate_callee (f := 102) rfl ?_); refine goesL_ (some 5) rfl rfl Tryd.func102 (by kernel_rfl) rfl #[.pointer (some ⟨g219, 0, none⟩), .int .i64 2] rfl (by (try simp only [List.map_toArray, List.map_cons, List.map_nil]); first | done | rfl | (simp only [List.length_drop, List.length_take]; rfl)) ?_; (with_reducible refine (spec_l20Order.calls k g219 t217 t218 2 t220 t223 w _ ?side1 ?side2 A3.out).mono ?_); (case side1 => repeat (first | (with_reducible first | exact HI219.out | apply IsS133.alloc | apply IsS133.drewN | apply IsS133.drew | apply IsS133.set_1) | exact HI219.out)); (case side2 => repeat (first | (with_reducible first | exact HB.out | apply below_alloc | apply pw_below_drewN | apply below_drew1 | refine below_set ?_ (IsS133.ge HI219.out)) | exact HB.out)); rintro e w5 ⟨v221, rfl, ho0, hi, hb, hk⟩; refine ⟨_, rfl, ?_⟩; have n0_ := Aside0.mk (Kd.R_lower ho0 (below_size (by repeat (first | (with_reducible first | exact HB.out | apply below_alloc | apply pw_below_drewN | apply below_drew1 | refine below_set ?_ (IsS133.ge HI219.out)) | exact HB.out)))); have n1_ := Aside0.mk (hb); have n2_ := Aside0.mk (hi); clear HB HI219; have HO222 := n0_; have HB := n1_; have HI219 := n2_; clear n0_ n1_ n2_; (try clear hb); (try clear hb2); (try clear hk); (try clear hi); (try clear ho0)))
 go_ret
 exact ⟨_, by first | rfl | (simp [errW_none, errW_some] <;> rfl) | (simp [*, errW_none, errW_some] <;> rfl), rk HO222, by repeat (first | (with_reducible first | exact HB.out | apply below_alloc | apply pw_below_drewN | apply below_drew1 | refine below_set ?_ (IsS133.ge HI219.out)) | exact HB.out)⟩

/-! ### impl_OrderValid: function 49 -/
def impl_OrderValid.l0 : Nat → List (S70) → Int → Int → Option (Bool)
 | 0, _, _, _ => none
 | k + 1, x8, x9, x10 => if x10 < x9 then (if 0 ≤ x10 then (if x10 < (x8.length : Int) then (if ((rd_T70 x8 x10).f0) < 0 then (some false) else (if ((rd_T70 x8 x10).f0) ≥ 10 then (some false) else (impl_OrderValid.l0 k x8 x9 (wrap64 (x10 + 1))))) else (none)) else (none)) else (some true)
def impl_OrderValid.f (k : Nat) (l0 : List (S70)) : Option (Bool) := if (l0.length : Int) > 12 then (some false) else (impl_OrderValid.l0 k l0 (l0.length : Int) 0)
theorem impl_OrderValid.mono_l : ∀ k, (∀ y0 y1 y2, LeO (impl_OrderValid.l0 k y0 y1 y2) (impl_OrderValid.l0 (k + 1) y0 y1 y2))
 | 0 => fun _ _ _ r h => by simp [impl_OrderValid.l0] at h
 | k + 1 => by
  have ih0 := impl_OrderValid.mono_l k
  ·intro y0 y1 y2
   unfold impl_OrderValid.l0
   repeat' first
   | (with_reducible exact ih0 _ _ _)
   | (with_reducible exact LeO.refl _)
   | (with_reducible exact LeO.none _)
   | (with_reducible refine LeO.ite ?_ ?_)
   | (with_reducible refine LeO.bind ?_ (fun _ => ?_))
   | exact ih0 _ _ _
   | exact LeO.none _
   | refine LeO.ite ?_ ?_
   | refine LeO.bind ?_ (fun _ => ?_)
theorem impl_OrderValid.mono : ∀ a0 k, LeO (impl_OrderValid.f k a0) (impl_OrderValid.f (k + 1) a0) := by
 intro a0 k
 have ih0 := impl_OrderValid.mono_l k
 unfold impl_OrderValid.f
 repeat' first
   | (with_reducible exact ih0 _ _ _)
   | (with_reducible exact LeO.refl _)
   | (with_reducible exact LeO.none _)
   | (with_reducible refine LeO.ite ?_ ?_)
   | (with_reducible refine LeO.bind ?_ (fun _ => ?_))
   | exact ih0 _ _ _
   | exact LeO.none _
   | refine LeO.ite ?_ ?_
   | refine LeO.bind ?_ (fun _ => ?_)
set_option maxHeartbeats 8000000 in
set_option maxRecDepth 100000 in
theorem impl_OrderValid.calls (k : Nat) (A0 : Option Addr) (c0 : Nat) (l0 : List (S70)) (r : Bool) (w : World) (hr0 : Kd.C k70 w A0 l0.length l0) (hc0 : l0.length ≤ c0) (h : impl_OrderValid.f k l0 = some r) :
  Calls Tryd.prog 49 #[.slice A0 l0.length c0] w fun e w' => e = .returned (.bool r) ∧ Below w.heap.size w w' := by
 have hu70 := Tryd.underlying70
 have HR0 := Aside0.mk hr0
 have HC0 := Aside0.mk hc0
 clear hr0 hc0
 have HB := Aside0.mk (Below.refl w.heap.size w)
 have H : (if (l0.length : Int) > 12 then (some false) else (impl_OrderValid.l0 k l0 (l0.length : Int) 0)) = some r := h
 clear h
 by_cases c2 : (l0.length : Int) > 12
 ·rw [if_pos c2] at H
  have c2b0 : decide (12 < (l0.length : Int)) = true := decide_eq_true c2
  have c2b1 : decide (12 < l0.length) = true := decide_eq_true (by omega)
  clear c2
  obtain rfl := Option.some.inj H
  go_enter Tryd.func49, Tryd.ntmps49
  go_wp2
  go_ret
  exact ⟨by first | rfl | (simp [errW_none, errW_some] <;> rfl) | (simp [*, errW_none, errW_some] <;> rfl), bw⟩
 ·rw [if_neg c2] at H
  have c2b0 : decide (12 < (l0.length : Int)) = false := decide_eq_false c2
  have c2b1 : decide (12 < l0.length) = false := decide_eq_false (by omega)
  clear c2
  have H' := Aside0.mk H
  clear H
  go_enter Tryd.func49, Tryd.ntmps49
  go_wp2
  go_loopg [10] k (fun kq v10 w' => ∃ (x10_1 : Int), v10 = .int .i64 x10_1 ∧ Aside0 (impl_OrderValid.l0 kq l0 (l0.length : Int) x10_1 = some r) ∧ Aside0 (kq ≤ k) ∧ Aside0 (Below w.heap.size w w'))
  case atStart => exact ⟨(0), (by first | rfl | (simp; done) | (simp [*]; done)), H', ⟨Nat.le_refl _⟩, ⟨bw⟩⟩
  case round =>
   clear H'
   try clear c2
   try clear c2b0
   try clear c2b1
   try clear p2
   obtain ⟨x10_1, rfl, HA, HK1, HB⟩ := hrel
   cases gk with
   | zero => exact absurd HA.out (by simp [impl_OrderValid.l0])
   | succ k1 =>
    have H := HA.out
    clear HA
    simp only [impl_OrderValid.l0] at H
    by_cases c3 : x10_1 < (l0.length : Int)
    ·rw [if_pos c3] at H
     have c3b0 : decide (x10_1 < (l0.length : Int)) = true := decide_eq_true c3
     clear c3
     by_cases c4 : 0 ≤ x10_1
     ·rw [if_pos c4] at H
      have c4b0 : decide (0 ≤ x10_1) = true := decide_eq_true c4
      clear c4
      by_cases c5 : x10_1 < (l0.length : Int)
      ·rw [if_pos c5] at H
       have c5b0 : decide (x10_1 < (l0.length : Int)) = true := decide_eq_true c5
       clear c5
       by_cases c6 : ((rd_T70 l0 x10_1).f0) < 0
       ·rw [if_pos c6] at H
        have c6b0 : decide (((rd_T70 l0 x10_1).f0) < 0) = true := decide_eq_true c6
        clear c6
        obtain rfl := Option.some.inj H
        have p224 : 0 ≤ (x10_1 : Int) := of_decide_eq_true (by first | (with_reducible assumption) | assumption)
        have q224 : x10_1 < (l0.length : Int) := of_decide_eq_true (by first | (with_reducible assumption) | assumption)
        obtain ⟨ad224, e224, hx224_0, hx224_1⟩ := at_T70 HR0.out x10_1 p224 q224
        cases e224
        replace hx224_0 := (HB.out.cell (World.block_lt_of_cell? w _ hx224_0)).trans hx224_0
        replace hx224_1 := (HB.out.cell (World.block_lt_of_cell? w _ hx224_1)).trans hx224_1
        replace p224 := eq_true p224
        replace q224 := eq_true q224
        go_wp2_with (first | ((with_reducible refine gate_dst (N := 4) rfl ?_); refine box_event ?hg (N := 4) ?hd (cs := #[.int .i64 0, .bool false]) (t := 70) ?hr ?_; (case hd => rfl); (case hg => rfl); (case hr => first | (go_simp; done) | (go_simp; rfl)); intro gb225 hg w7 hbox hb; have n0_ := Aside0.mk (below_step bw hb); have n1_ := Aside0.mk (hbox); have n2_ := Aside0.mk ((by rw [hg]; exact (below_size bw) : w.heap.size ≤ gb225)); have n3_ := Aside0.mk ((by rw [hg]; exact (below_size bw) : w.heap.size ≤ gb225)); clear HB; have HB := n0_; have BK225 := n1_; have GW225 := n2_; have GE225 := n3_; clear n0_ n1_ n2_ n3_; clear hb hbox hg; have hcz8_0 : w7.cell? ⟨gb225, 0, none⟩ = some (.int .i64 0) := (blk_cell BK225.out 0).trans rfl; have hcz8_1 : w7.cell? ⟨gb225, 1, none⟩ = some (.bool false) := (blk_cell BK225.out 1).trans rfl; have hfz8_0 := blk_frozen BK225.out 0; have hfz8_1 := blk_frozen BK225.out 1))
        go_ret
        exact ⟨by first | rfl | (simp [errW_none, errW_some] <;> rfl) | (simp [*, errW_none, errW_some] <;> rfl), bw⟩
       ·rw [if_neg c6] at H
        have c6b0 : decide (((rd_T70 l0 x10_1).f0) < 0) = false := decide_eq_false c6
        clear c6
        by_cases c9 : ((rd_T70 l0 x10_1).f0) ≥ 10
        ·rw [if_pos c9] at H
         have c9b0 : decide (10 ≤ ((rd_T70 l0 x10_1).f0)) = true := decide_eq_true c9
         clear c9
         obtain rfl := Option.some.inj H
         have p224 : 0 ≤ (x10_1 : Int) := of_decide_eq_true (by first | (with_reducible assumption) | assumption)
         have q224 : x10_1 < (l0.length : Int) := of_decide_eq_true (by first | (with_reducible assumption) | assumption)
         obtain ⟨ad224, e224, hx224_0, hx224_1⟩ := at_T70 HR0.out x10_1 p224 q224
         cases e224
         replace hx224_0 := (HB.out.cell (World.block_lt_of_cell? w _ hx224_0)).trans hx224_0
         replace hx224_1 := (HB.out.cell (World.block_lt_of_cell? w _ hx224_1)).trans hx224_1
         replace p224 := eq_true p224
         replace q224 := eq_true q224
         go_wp2_with (first | ((with_reducible refine gate_dst (N := 4) rfl ?_); refine box_event ?hg (N := 4) ?hd (cs := #[.int .i64 0, .bool false]) (t := 70) ?hr ?_; (case hd => rfl); (case hg => rfl); (case hr => first | (go_simp; done) | (go_simp; rfl)); intro gb225 hg w10 hbox hb; have n0_ := Aside0.mk (below_step bw hb); have n1_ := Aside0.mk (hbox); have n2_ := Aside0.mk ((by rw [hg]; exact (below_size bw) : w.heap.size ≤ gb225)); have n3_ := Aside0.mk ((by rw [hg]; exact (below_size bw) : w.heap.size ≤ gb225)); clear HB; have HB := n0_; have BK225 := n1_; have GW225 := n2_; have GE225 := n3_; clear n0_ n1_ n2_ n3_; clear hb hbox hg; have hcz11_0 : w10.cell? ⟨gb225, 0, none⟩ = some (.int .i64 0) := (blk_cell BK225.out 0).trans rfl; have hcz11_1 : w10.cell? ⟨gb225, 1, none⟩ = some (.bool false) := (blk_cell BK225.out 1).trans rfl; have hfz11_0 := blk_frozen BK225.out 0; have hfz11_1 := blk_frozen BK225.out 1))
         go_ret
         exact ⟨by first | rfl | (simp [errW_none, errW_some] <;> rfl) | (simp [*, errW_none, errW_some] <;> rfl), bw⟩
        ·rw [if_neg c9] at H
         have c9b0 : decide (10 ≤ ((rd_T70 l0 x10_1).f0)) = false := decide_eq_false c9
         clear c9
         have H' := Aside0.mk H
         clear H
         have p224 : 0 ≤ (x10_1 : Int) := of_decide_eq_true (by first | (with_reducible assumption) | assumption)
         have q224 : x10_1 < (l0.length : Int) := of_decide_eq_true (by first | (with_reducible assumption) | assumption)
         obtain ⟨ad224, e224, hx224_0, hx224_1⟩ := at_T70 HR0.out x10_1 p224 q224
         cases e224
         replace hx224_0 := (HB.out.cell (World.block_lt_of_cell? w _ hx224_0)).trans hx224_0
         replace hx224_1 := (HB.out.cell (World.block_lt_of_cell? w _ hx224_1)).trans hx224_1
         replace p224 := eq_true p224
         replace q224 := eq_true q224
         go_wp2_with (first | ((with_reducible refine gate_dst (N := 4) rfl ?_); refine box_event ?hg (N := 4) ?hd (cs := #[.int .i64 0, .bool false]) (t := 70) ?hr ?_; (case hd => rfl); (case hg => rfl); (case hr => first | (go_simp; done) | (go_simp; rfl)); intro gb225 hg w12 hbox hb; have n0_ := Aside0.mk (below_step bw hb); have n1_ := Aside0.mk (hbox); have n2_ := Aside0.mk ((by rw [hg]; exact (below_size bw) : w.heap.size ≤ gb225)); have n3_ := Aside0.mk ((by rw [hg]; exact (below_size bw) : w.heap.size ≤ gb225)); clear HB; have HB := n0_; have BK225 := n1_; have GW225 := n2_; have GE225 := n3_; clear n0_ n1_ n2_ n3_; clear hb hbox hg; have hcz13_0 : w12.cell? ⟨gb225, 0, none⟩ = some (.int .i64 0) := (blk_cell BK225.out 0).trans rfl; have hcz13_1 : w12.cell? ⟨gb225, 1, none⟩ = some (.bool false) := (blk_cell BK225.out 1).trans rfl; have hfz13_0 := blk_frozen BK225.out 0; have hfz13_1 := blk_frozen BK225.out 1))
         go_roundg k1
         case measure => have := HK1.out; omega
         case rel => exact ⟨(wrap64 (x10_1 + 1)), (by first | rfl | (simp; done) | (simp [*]; done)), H', ⟨by have := HK1.out; omega⟩, ⟨bw⟩⟩
      ·rw [if_neg c5] at H
       exact absurd H (by simp)
     ·rw [if_neg c4] at H
      exact absurd H (by simp)
    ·rw [if_neg c3] at H
     have c3b0 : decide (x10_1 < (l0.length : Int)) = false := decide_eq_false c3
     clear c3
     obtain rfl := Option.some.inj H
     go_wp2
     go_ret
     exact ⟨by first | rfl | (simp [errW_none, errW_some] <;> rfl) | (simp [*, errW_none, errW_some] <;> rfl), bw⟩

/-! ### spec_OrderValid: function 50 -/
def spec_OrderValid.l0 : Nat → List (S70) → Int → Option (Bool)
 | 0, _, _ => none
 | k + 1, x0, x3 => if x3 < (x0.length : Int) then (if 0 ≤ x3 then ((spec_l1In.f ((rd_T70 x0 x3).f0) 0 9).bind fun t227 => (if t227 = true then (spec_OrderValid.l0 k x0 (wrap64 (x3 + 1))) else (some false))) else (none)) else (some (decide ((x0.length : Int) ≤ 12)))
def spec_OrderValid.f (k : Nat) (l0 : List (S70)) : Option (Bool) := spec_OrderValid.l0 k l0 0
theorem spec_OrderValid.mono_l : ∀ k, (∀ y0 y1, LeO (spec_OrderValid.l0 k y0 y1) (spec_OrderValid.l0 (k + 1) y0 y1))
 | 0 => fun _ _ r h => by simp [spec_OrderValid.l0] at h
 | k + 1 => by
  have ih0 := spec_OrderValid.mono_l k
  ·intro y0 y1
   unfold spec_OrderValid.l0
   repeat' first
   | (with_reducible exact ih0 _ _)
   | (with_reducible exact LeO.refl _)
   | (with_reducible exact LeO.none _)
   | (with_reducible refine LeO.ite ?_ ?_)
   | (with_reducible refine LeO.bind ?_ (fun _ => ?_))
   | exact ih0 _ _
   | exact LeO.none _
   | refine LeO.ite ?_ ?_
   | refine LeO.bind ?_ (fun _ => ?_)
theorem spec_OrderValid.mono : ∀ a0 k, LeO (spec_OrderValid.f k a0) (spec_OrderValid.f (k + 1) a0) := by
 intro a0 k
 have ih0 := spec_OrderValid.mono_l k
 unfold spec_OrderValid.f
 repeat' first
   | (with_reducible exact ih0 _ _)
   | (with_reducible exact LeO.refl _)
   | (with_reducible exact LeO.none _)
   | (with_reducible refine LeO.ite ?_ ?_)
   | (with_reducible refine LeO.bind ?_ (fun _ => ?_))
   | exact ih0 _ _
   | exact LeO.none _
   | refine LeO.ite ?_ ?_
   | refine LeO.bind ?_ (fun _ => ?_)
set_option maxHeartbeats 8000000 in
set_option maxRecDepth 100000 in
theorem spec_OrderValid.calls (k : Nat) (A0 : Option Addr) (c0 : Nat) (l0 : List (S70)) (r : Bool) (w : World) (hr0 : Kd.C k70 w A0 l0.length l0) (hc0 : l0.length ≤ c0) (h : spec_OrderValid.f k l0 = some r) :
  Calls Tryd.prog 50 #[.slice A0 l0.length c0] w fun e w' => e = .returned (.bool r) ∧ Drawn0 w w' := by
 have HR0 := Aside0.mk hr0
 have HC0 := Aside0.mk hc0
 clear hr0 hc0
 have H : (spec_OrderValid.l0 k l0 0) = some r := h
 clear h
 have H' := Aside0.mk H
 clear H
 go_enter Tryd.func50, Tryd.ntmps50
 go_wp2
 go_loopg [3] k (fun kq v3 w' => ∃ (x3_1 : Int), v3 = .int .i64 x3_1 ∧ Aside0 (spec_OrderValid.l0 kq l0 x3_1 = some r) ∧ Aside0 (kq ≤ k) ∧ Drawn0 w w')
 case atStart => exact ⟨(0), (by first | rfl | (simp; done) | (simp [*]; done)), H', ⟨Nat.le_refl _⟩, by repeat (first | exact Drawn0.refl _ | apply Drawn0.step)⟩
 case round =>
  clear H'
  obtain ⟨x3_1, rfl, HA, HK1, ⟨m1, rfl⟩⟩ := hrel
  cases gk with
  | zero => exact absurd HA.out (by simp [spec_OrderValid.l0])
  | succ k1 =>
   have H := HA.out
   clear HA
   simp only [spec_OrderValid.l0] at H
   by_cases c2 : x3_1 < (l0.length : Int)
   ·rw [if_pos c2] at H
    have c2b0 : decide (x3_1 < (l0.length : Int)) = true := decide_eq_true c2
    clear c2
    by_cases c3 : 0 ≤ x3_1
    ·rw [if_pos c3] at H
     have c3b0 : decide (0 ≤ x3_1) = true := decide_eq_true c3
     clear c3
     replace H := Option.bind_eq_some_iff.mp H
     obtain ⟨t227, A40, H⟩ := H
     replace H : (if t227 = true then (spec_OrderValid.l0 k1 l0 (wrap64 (x3_1 + 1))) else (some false)) = some r := H
     have A4 := Aside0.mk A40
     clear A40
     by_cases c5 : t227 = true
     ·subst c5
      have H1 : (spec_OrderValid.l0 k1 l0 (wrap64 (x3_1 + 1))) = some r := by rw [if_pos rfl] at H; exact H
      clear H
      have H := H1
      clear H1
      have H' := Aside0.mk H
      clear H
      have p226 : 0 ≤ (x3_1 : Int) := of_decide_eq_true (by first | (with_reducible assumption) | assumption)
      have q226 : x3_1 < (l0.length : Int) := of_decide_eq_true (by first | (with_reducible assumption) | assumption)
      obtain ⟨ad226, e226, hx226_0, hx226_1⟩ := at_T70 HR0.out x3_1 p226 q226
      cases e226
      replace p226 := eq_true p226
      replace q226 := eq_true q226
      go_wp2_with (first | ((with_reducible refine gate_callee (f := 76) rfl ?_); refine goesL_ (some 15) rfl rfl Tryd.func76 (by kernel_rfl) rfl #[.int .i64 ((rd_T70 l0 x3_1).f0), .int .i64 0, .int .i64 9] rfl (by (try simp only [List.map_toArray, List.map_cons, List.map_nil]); first | done | rfl | (simp only [List.length_drop, List.length_take]; rfl)) ?_; (with_reducible refine (spec_l1In.calls ((rd_T70 l0 x3_1).f0) 0 9 true _ A4.out).mono ?_); rintro e w' ⟨rfl, ⟨nd, rfl⟩⟩; refine ⟨_, rfl, ?_⟩))
      go_roundg k1
      case measure => have := HK1.out; omega
      case rel => exact ⟨(wrap64 (x3_1 + 1)), (by first | rfl | (simp; done) | (simp [*]; done)), H', ⟨by have := HK1.out; omega⟩, by repeat (first | exact Drawn0.refl _ | apply Drawn0.step)⟩
     ·replace c5 := Bool.eq_false_iff.mpr c5
      subst c5
      have H1 : (some false) = some r := by rw [if_neg (show ¬ (false = true) by decide)] at H; exact H
      clear H
      have H := H1
      clear H1
      obtain rfl := Option.some.inj H
      have p226 : 0 ≤ (x3_1 : Int) := of_decide_eq_true (by first | (with_reducible assumption) | assumption)
      have q226 : x3_1 < (l0.length : Int) := of_decide_eq_true (by first | (with_reducible assumption) | assumption)
      obtain ⟨ad226, e226, hx226_0, hx226_1⟩ := at_T70 HR0.out x3_1 p226 q226
      cases e226
      replace p226 := eq_true p226
      replace q226 := eq_true q226
      go_wp2_with (first | ((with_reducible refine gate_callee (f := 76) rfl ?_); refine goesL_ (some 15) rfl rfl Tryd.func76 (by kernel_rfl) rfl #[.int .i64 ((rd_T70 l0 x3_1).f0), .int .i64 0, .int .i64 9] rfl (by (try simp only [List.map_toArray, List.map_cons, List.map_nil]); first | done | rfl | (simp only [List.length_drop, List.length_take]; rfl)) ?_; (with_reducible refine (spec_l1In.calls ((rd_T70 l0 x3_1).f0) 0 9 false _ A4.out).mono ?_); rintro e w' ⟨rfl, ⟨nd, rfl⟩⟩; refine ⟨_, rfl, ?_⟩))
      go_ret
      exact ⟨by first | rfl | (simp; done) | (simp [*]; done), by repeat (first | exact Drawn0.refl _ | apply Drawn0.step)⟩
    ·rw [if_neg c3] at H
     exact absurd H (by simp)
   ·rw [if_neg c2] at H
    have c2b0 : decide (x3_1 < (l0.length : Int)) = false := decide_eq_false c2
    clear c2
    obtain rfl := Option.some.inj H
    go_wp2
    go_ret
    exact ⟨by first | rfl | (simp; done) | (simp [*]; done), by repeat (first | exact Drawn0.refl _ | apply Drawn0.step)⟩

end Go.Proofs.YtoajkfhjgnonjaaDoor.G
