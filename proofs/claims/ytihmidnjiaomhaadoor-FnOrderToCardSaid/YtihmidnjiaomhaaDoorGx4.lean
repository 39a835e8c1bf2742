-- Printed by wip/gen.py of this session's repo, over the kit's print.py. Not trusted: Lean checks it.
import Derived.Test.YtihmidnjiaomhaaDoorSq
import Derived.Test.YtihmidnjiaomhaaDoorGx0
import Derived.Test.YtihmidnjiaomhaaDoorGx3
namespace Go.Proofs.YtihmidnjiaomhaaDoor.G
open Go.RowKit Go.Proofs.YtihmidnjiaomhaaDoorW.PrintWords Go.Proofs.YtihmidnjiaomhaaDoorW.PrintLast Go.Proofs.YtihmidnjiaomhaaDoorW.PrintMore Go.Proofs.YtihmidnjiaomhaaDoor.Sq
attribute [local go_sem] max2_int min2_int max_two min_two max_three min_three max_four min_four   -- for this text's walks alone
set_option linter.unusedVariables false
set_option linter.unusedSimpArgs false

attribute [local go_sem high] eqA87
/-! ### impl_OtherEnd: function 48 -/
def impl_OtherEnd.f (k : Nat) (a0_0 : Int) (l0_1 : List (S42)) (a1 : Int) (a2 : Int) : Option (Int) := (impl_NetValid.f k a0_0 l0_1).bind fun t243 => (if t243 = true then ((impl_Net_hasLine.f a0_0 l0_1 a1).bind fun t244 => (if t244 = true then (if 0 ≤ a1 then (if a1 < (l0_1.length : Int) then ((impl_Line_other.f ((rd_T42 l0_1 a1).f0) ((rd_T42 l0_1 a1).f1) ((rd_T42 l0_1 a1).f2) a2).bind fun t246 => (some t246)) else (none)) else (none)) else (some (-1)))) else (some (-1)))
theorem impl_OtherEnd.mono : ∀ a0 a1 a2 a3 k, LeO (impl_OtherEnd.f k a0 a1 a2 a3) (impl_OtherEnd.f (k + 1) a0 a1 a2 a3) := by
 intro a0 a1 a2 a3 k
 unfold impl_OtherEnd.f
 repeat' first
   | (with_reducible exact impl_NetValid.mono _ _ _)
   | (with_reducible exact LeO.refl _)
   | (with_reducible exact LeO.none _)
   | (with_reducible refine LeO.ite ?_ ?_)
   | (with_reducible refine LeO.bind ?_ (fun _ => ?_))
   | exact impl_NetValid.mono _ _ _
   | exact LeO.none _
   | refine LeO.ite ?_ ?_
   | refine LeO.bind ?_ (fun _ => ?_)
set_option maxHeartbeats 8000000 in
set_option maxRecDepth 100000 in
theorem impl_OtherEnd.calls (k : Nat) (a0_0 : Int) (A0_1 : Option Addr) (c0_1 : Nat) (l0_1 : List (S42)) (a1 : Int) (a2 : Int) (r : Int) (w : World) (hr0_1 : Kd.C k42 w A0_1 l0_1.length l0_1) (hc0_1 : l0_1.length ≤ c0_1) (h : impl_OtherEnd.f k a0_0 l0_1 a1 a2 = some r) :
  Calls Tryd.prog 48 #[.agg #[.int .i64 a0_0, .slice A0_1 l0_1.length c0_1], .int .i64 a1, .int .i64 a2] w fun e w' => e = .returned (.int .i64 r) ∧ Below w.heap.size w w' := by
 have hu40 := Tryd.underlying40
 have hu42 := Tryd.underlying42
 have HR0_1 := Aside0.mk hr0_1
 have HC0_1 := Aside0.mk hc0_1
 clear hr0_1 hc0_1
 have HB := Aside0.mk (Below.refl w.heap.size w)
 have H : ((impl_NetValid.f k a0_0 l0_1).bind fun t243 => (if t243 = true then ((impl_Net_hasLine.f a0_0 l0_1 a1).bind fun t244 => (if t244 = true then (if 0 ≤ a1 then (if a1 < (l0_1.length : Int) then ((impl_Line_other.f ((rd_T42 l0_1 a1).f0) ((rd_T42 l0_1 a1).f1) ((rd_T42 l0_1 a1).f2) a2).bind fun t246 => (some t246)) else (none)) else (none)) else (some (-1)))) else (some (-1)))) = some r := h
 clear h
 replace H := Option.bind_eq_some_iff.mp H
 obtain ⟨t243, A40, H⟩ := H
 replace H : (if t243 = true then ((impl_Net_hasLine.f a0_0 l0_1 a1).bind fun t244 => (if t244 = true then (if 0 ≤ a1 then (if a1 < (l0_1.length : Int) then ((impl_Line_other.f ((rd_T42 l0_1 a1).f0) ((rd_T42 l0_1 a1).f1) ((rd_T42 l0_1 a1).f2) a2).bind fun t246 => (some t246)) else (none)) else (none)) else (some (-1)))) else (some (-1))) = some r := H
 have A4 := Aside0.mk A40
 clear A40
 by_cases c5 : t243 = true
 ·subst c5
  have H1 : ((impl_Net_hasLine.f a0_0 l0_1 a1).bind fun t244 => (if t244 = true then (if 0 ≤ a1 then (if a1 < (l0_1.length : Int) then ((impl_Line_other.f ((rd_T42 l0_1 a1).f0) ((rd_T42 l0_1 a1).f1) ((rd_T42 l0_1 a1).f2) a2).bind fun t246 => (some t246)) else (none)) else (none)) else (some (-1)))) = some r := by rw [if_pos rfl] at H; exact H
  clear H
  have H := H1
  clear H1
  replace H := Option.bind_eq_some_iff.mp H
  obtain ⟨t244, A60, H⟩ := H
  replace H : (if t244 = true then (if 0 ≤ a1 then (if a1 < (l0_1.length : Int) then ((impl_Line_other.f ((rd_T42 l0_1 a1).f0) ((rd_T42 l0_1 a1).f1) ((rd_T42 l0_1 a1).f2) a2).bind fun t246 => (some t246)) else (none)) else (none)) else (some (-1))) = some r := H
  have A6 := Aside0.mk A60
  clear A60
  by_cases c7 : t244 = true
  ·subst c7
   have H1 : (if 0 ≤ a1 then (if a1 < (l0_1.length : Int) then ((impl_Line_other.f ((rd_T42 l0_1 a1).f0) ((rd_T42 l0_1 a1).f1) ((rd_T42 l0_1 a1).f2) a2).bind fun t246 => (some t246)) else (none)) else (none)) = some r := by rw [if_pos rfl] at H; exact H
   clear H
   have H := H1
   clear H1
   by_cases c8 : 0 ≤ a1
   ·rw [if_pos c8] at H
    have c8b0 : decide (0 ≤ a1) = true := decide_eq_true c8
    clear c8
    by_cases c9 : a1 < (l0_1.length : Int)
    ·rw [if_pos c9] at H
     have c9b0 : decide (a1 < (l0_1.length : Int)) = true := decide_eq_true c9
     clear c9
     replace H := Option.bind_eq_some_iff.mp H
     obtain ⟨t246, A100, H⟩ := H
     replace H : (some t246) = some r := H
     have A10 := Aside0.mk A100
     clear A100
     obtain rfl := Option.some.inj H
     go_enter Tryd.func48, Tryd.ntmps48
     have TK0_ := Aside0.mk trivial; have TK1_ := Aside0.mk trivial; have TK2_ := Aside0.mk trivial; have TK3_ := Aside0.mk trivial
     go_wp2_with (first | (clear TK0_; (with_reducible refine gate_dst (N := 3) rfl ?_); refine box_event ?hg (N := 3) ?hd (cs := #[.int .i64 a0_0, .slice A0_1 l0_1.length c0_1]) (t := 40) ?hr ?_; (case hd => rfl); (case hg => rfl); (case hr => first | (go_simp; done) | (go_simp; rfl)); intro gb242 hg w11 hbox hb; have n0_ := Aside0.mk (below_step bw hb); have n1_ := Aside0.mk (hbox); have n2_ := Aside0.mk ((by rw [hg]; exact (below_size bw) : w.heap.size ≤ gb242)); have n3_ := Aside0.mk ((by rw [hg]; exact (below_size bw) : w.heap.size ≤ gb242)); clear HB; have HB := n0_; have BK242 := n1_; have GW242 := n2_; have GE242 := n3_; clear n0_ n1_ n2_ n3_; clear hb hbox hg; have hcz12_0 : w11.cell? ⟨gb242, 0, none⟩ = some (.int .i64 a0_0) := (blk_cell BK242.out 0).trans rfl; have hcz12_1 : w11.cell? ⟨gb242, 1, none⟩ = some (.slice A0_1 l0_1.length c0_1) := (blk_cell BK242.out 1).trans rfl; have hfz12_0 := blk_frozen BK242.out 0; have hfz12_1 := blk_frozen BK242.out 1) | (clear TK1_; (with_reducible refine gate_callee (f := 86) rfl ?_); refine goesL_ (some 8) rfl rfl Tryd.func86 (by kernel_rfl) rfl #[.agg #[.int .i64 a0_0, .slice A0_1 l0_1.length c0_1]] rfl (by (try simp only [List.map_toArray, List.map_cons, List.map_nil]); first | done | rfl | (simp only [List.length_drop, List.length_take]; rfl)) ?_; (with_reducible refine (impl_NetValid.calls k a0_0 _ _ l0_1 true _ ?side1 ?side2 A4.out).mono ?_); (case side1 => exact cb HR0_1); (case side2 => exact HC0_1.out); rintro e w13 ⟨rfl, hb⟩; refine ⟨_, rfl, ?_⟩; have n0_ := bkB BK242 hb; have n1_ := Aside0.mk (below_step bw hb); clear BK242 HB; have BK242 := n0_; have HB := n1_; clear n0_ n1_; (try clear hb); (try clear hb2); (try clear hk); (try clear hi); have hcz14_0 : w13.cell? ⟨gb242, 0, none⟩ = some (.int .i64 a0_0) := (blk_cell BK242.out 0).trans rfl; have hcz14_1 : w13.cell? ⟨gb242, 1, none⟩ = some (.slice A0_1 l0_1.length c0_1) := (blk_cell BK242.out 1).trans rfl; have hfz14_0 := blk_frozen BK242.out 0; have hfz14_1 := blk_frozen BK242.out 1) | (clear TK2_; go_at_call 56; (with_reducible refine (impl_Net_hasLine.calls a0_0 _ _ l0_1 a1 true _ ?side1 ?side2 A6.out).mono ?_); (case side1 => exact cb HR0_1); (case side2 => exact HC0_1.out); rintro e w15 ⟨rfl, hb⟩; have n0_ := bkB BK242 hb; have n1_ := Aside0.mk (below_step bw hb); clear BK242 HB; have BK242 := n0_; have HB := n1_; clear n0_ n1_; (try clear hb); (try clear hb2); (try clear hk); (try clear hi); have hcz16_0 : w15.cell? ⟨gb242, 0, none⟩ = some (.int .i64 a0_0) := (blk_cell BK242.out 0).trans rfl; have hcz16_1 : w15.cell? ⟨gb242, 1, none⟩ = some (.slice A0_1 l0_1.length c0_1) := (blk_cell BK242.out 1).trans rfl; have hfz16_0 := blk_frozen BK242.out 0; have hfz16_1 := blk_frozen BK242.out 1; have p245 : 0 ≤ (a1 : Int) := of_decide_eq_true (by first | (with_reducible assumption) | assumption); have q245 : a1 < (l0_1.length : Int) := of_decide_eq_true (by first | (with_reducible assumption) | assumption); obtain ⟨ad245, e245, hx245_0, hx245_1, hx245_2⟩ := at_T42 HR0_1.out a1 p245 q245; cases e245; replace hx245_0 := (HB.out.cell (World.block_lt_of_cell? w _ hx245_0)).trans hx245_0; replace hx245_1 := (HB.out.cell (World.block_lt_of_cell? w _ hx245_1)).trans hx245_1; replace hx245_2 := (HB.out.cell (World.block_lt_of_cell? w _ hx245_2)).trans hx245_2; replace p245 := eq_true p245; replace q245 := eq_true q245) | (clear TK3_; (with_reducible refine gate_callee (f := 87) rfl ?_); refine goesL_ (some 22) rfl rfl Tryd.func87 (by kernel_rfl) rfl #[.agg #[.int .i64 ((rd_T42 l0_1 a1).f0), .int .i64 ((rd_T42 l0_1 a1).f1), .int .i64 ((rd_T42 l0_1 a1).f2)], .int .i64 a2] rfl (by (try simp only [List.map_toArray, List.map_cons, List.map_nil]); first | done | rfl | (simp only [List.length_drop, List.length_take]; rfl)) ?_; (with_reducible refine (impl_Line_other.calls ((rd_T42 l0_1 a1).f0) ((rd_T42 l0_1 a1).f1) ((rd_T42 l0_1 a1).f2) a2 t246 _ A10.out).mono ?_); rintro e w17 ⟨rfl, hb⟩; refine ⟨_, rfl, ?_⟩; have n0_ := bkB BK242 hb; have n1_ := Aside0.mk (below_step bw hb); clear BK242 HB; have BK242 := n0_; have HB := n1_; clear n0_ n1_; (try clear hb); (try clear hb2); (try clear hk); (try clear hi)))
     go_ret
     exact ⟨by first | rfl | (simp [errW_none, errW_some] <;> rfl) | (simp [*, errW_none, errW_some] <;> rfl), bw⟩
    ·rw [if_neg c9] at H
     exact absurd H (by simp)
   ·rw [if_neg c8] at H
    exact absurd H (by simp)
  ·replace c7 := Bool.eq_false_iff.mpr c7
   subst c7
   have H1 : (some (-1)) = some r := by rw [if_neg (show ¬ (false = true) by decide)] at H; exact H
   clear H
   have H := H1
   clear H1
   obtain rfl := Option.some.inj H
   go_enter Tryd.func48, Tryd.ntmps48
   have TK0_ := Aside0.mk trivial; have TK1_ := Aside0.mk trivial; have TK2_ := Aside0.mk trivial
   go_wp2_with (first | (clear TK0_; (with_reducible refine gate_dst (N := 3) rfl ?_); refine box_event ?hg (N := 3) ?hd (cs := #[.int .i64 a0_0, .slice A0_1 l0_1.length c0_1]) (t := 40) ?hr ?_; (case hd => rfl); (case hg => rfl); (case hr => first | (go_simp; done) | (go_simp; rfl)); intro gb242 hg w18 hbox hb; have n0_ := Aside0.mk (below_step bw hb); have n1_ := Aside0.mk (hbox); have n2_ := Aside0.mk ((by rw [hg]; exact (below_size bw) : w.heap.size ≤ gb242)); have n3_ := Aside0.mk ((by rw [hg]; exact (below_size bw) : w.heap.size ≤ gb242)); clear HB; have HB := n0_; have BK242 := n1_; have GW242 := n2_; have GE242 := n3_; clear n0_ n1_ n2_ n3_; clear hb hbox hg; have hcz19_0 : w18.cell? ⟨gb242, 0, none⟩ = some (.int .i64 a0_0) := (blk_cell BK242.out 0).trans rfl; have hcz19_1 : w18.cell? ⟨gb242, 1, none⟩ = some (.slice A0_1 l0_1.length c0_1) := (blk_cell BK242.out 1).trans rfl; have hfz19_0 := blk_frozen BK242.out 0; have hfz19_1 := blk_frozen BK242.out 1) | (clear TK1_; (with_reducible refine gate_callee (f := 86) rfl ?_); refine goesL_ (some 8) rfl rfl Tryd.func86 (by kernel_rfl) rfl #[.agg #[.int .i64 a0_0, .slice A0_1 l0_1.length c0_1]] rfl (by (try simp only [List.map_toArray, List.map_cons, List.map_nil]); first | done | rfl | (simp only [List.length_drop, List.length_take]; rfl)) ?_; (with_reducible refine (impl_NetValid.calls k a0_0 _ _ l0_1 true _ ?side1 ?side2 A4.out).mono ?_); (case side1 => exact cb HR0_1); (case side2 => exact HC0_1.out); rintro e w20 ⟨rfl, hb⟩; refine ⟨_, rfl, ?_⟩; have n0_ := bkB BK242 hb; have n1_ := Aside0.mk (below_step bw hb); clear BK242 HB; have BK242 := n0_; have HB := n1_; clear n0_ n1_; (try clear hb); (try clear hb2); (try clear hk); (try clear hi); have hcz21_0 : w20.cell? ⟨gb242, 0, none⟩ = some (.int .i64 a0_0) := (blk_cell BK242.out 0).trans rfl; have hcz21_1 : w20.cell? ⟨gb242, 1, none⟩ = some (.slice A0_1 l0_1.length c0_1) := (blk_cell BK242.out 1).trans rfl; have hfz21_0 := blk_frozen BK242.out 0; have hfz21_1 := blk_frozen BK242.out 1) | (clear TK2_; go_at_call 56; (with_reducible refine (impl_Net_hasLine.calls a0_0 _ _ l0_1 a1 false _ ?side1 ?side2 A6.out).mono ?_); (case side1 => exact cb HR0_1); (case side2 => exact HC0_1.out); rintro e w22 ⟨rfl, hb⟩; have n0_ := bkB BK242 hb; have n1_ := Aside0.mk (below_step bw hb); clear BK242 HB; have BK242 := n0_; have HB := n1_; clear n0_ n1_; (try clear hb); (try clear hb2); (try clear hk); (try clear hi)))
   go_ret
   exact ⟨by first | rfl | (simp [errW_none, errW_some] <;> rfl) | (simp [*, errW_none, errW_some] <;> rfl), bw⟩
 ·replace c5 := Bool.eq_false_iff.mpr c5
  subst c5
  have H1 : (some (-1)) = some r := by rw [if_neg (show ¬ (false = true) by decide)] at H; exact H
  clear H
  have H := H1
  clear H1
  obtain rfl := Option.some.inj H
  go_enter Tryd.func48, Tryd.ntmps48
  go_wp2_with (first | ((with_reducible refine gate_dst (N := 3) rfl ?_); refine box_event ?hg (N := 3) ?hd (cs := #[.int .i64 a0_0, .slice A0_1 l0_1.length c0_1]) (t := 40) ?hr ?_; (case hd => rfl); (case hg => rfl); (case hr => first | (go_simp; done) | (go_simp; rfl)); intro gb242 hg w23 hbox hb; have n0_ := Aside0.mk (below_step bw hb); have n1_ := Aside0.mk (hbox); have n2_ := Aside0.mk ((by rw [hg]; exact (below_size bw) : w.heap.size ≤ gb242)); have n3_ := Aside0.mk ((by rw [hg]; exact (below_size bw) : w.heap.size ≤ gb242)); clear HB; have HB := n0_; have BK242 := n1_; have GW242 := n2_; have GE242 := n3_; clear n0_ n1_ n2_ n3_; clear hb hbox hg; have hcz24_0 : w23.cell? ⟨gb242, 0, none⟩ = some (.int .i64 a0_0) := (blk_cell BK242.out 0).trans rfl; have hcz24_1 : w23.cell? ⟨gb242, 1, none⟩ = some (.slice A0_1 l0_1.length c0_1) := (blk_cell BK242.out 1).trans rfl; have hfz24_0 := blk_frozen BK242.out 0; have hfz24_1 := blk_frozen BK242.out 1) | ((with_reducible refine gate_callee (f := 86) rfl ?_); refine goesL_ (some 8) rfl rfl Tryd.func86 (by kernel_rfl) rfl #[.agg #[.int .i64 a0_0, .slice A0_1 l0_1.length c0_1]] rfl (by (try simp only [List.map_toArray, List.map_cons, List.map_nil]); first | done | rfl | (simp only [List.length_drop, List.length_take]; rfl)) ?_; (with_reducible refine (impl_NetValid.calls k a0_0 _ _ l0_1 false _ ?side1 ?side2 A4.out).mono ?_); (case side1 => exact cb HR0_1); (case side2 => exact HC0_1.out); rintro e w25 ⟨rfl, hb⟩; refine ⟨_, rfl, ?_⟩; have n0_ := bkB BK242 hb; have n1_ := Aside0.mk (below_step bw hb); clear BK242 HB; have BK242 := n0_; have HB := n1_; clear n0_ n1_; (try clear hb); (try clear hb2); (try clear hk); (try clear hi)))
  go_ret
  exact ⟨by first | rfl | (simp [errW_none, errW_some] <;> rfl) | (simp [*, errW_none, errW_some] <;> rfl), bw⟩

-- NOT PRINTED: function 112 (strconv_small)

-- NOT PRINTED: function 124 (strconv_log10Pow2)

-- NOT PRINTED: function 125 (bits_Len64)

-- NOT PRINTED: function 126 (strconv_bool2_int)

-- NOT PRINTED: function 113 (strconv_numDigits)

-- NOT PRINTED: function 114 (strconv_formatBase10)

-- NOT PRINTED: function 127 (strconv_isPowerOfTwo)

-- NOT PRINTED: function 132 (bits_TrailingZeros32)

-- NOT PRINTED: function 133 (bits_TrailingZeros64)

-- NOT PRINTED: function 128 (bits_TrailingZeros)

-- NOT PRINTED: function 115 (strconv_formatBits)

-- NOT PRINTED: function 104 (strconv_FormatInt)

-- NOT PRINTED: function 95 (strconv_Itoa_95)

-- NOT PRINTED: function 74 (strconv_Itoa_74)

-- NOT PRINTED: function 111 (abi_NoEscape)

-- NOT PRINTED: function 102 (strings_Builder_copyCheck)

-- NOT PRINTED: function 88 (strings_Builder_WriteString)

-- NOT PRINTED: function 89 (strings_Builder_String)

/-! ### impl_NetText: function 49 -/
def impl_NetText.f (k : Nat) (a0_0 : Int) (l0_1 : List (S42)) : Option (ByteArray) := (impl_NetValid.f k a0_0 l0_1).bind fun t => if t = true then none else some ByteArray.empty
theorem impl_NetText.mono : ∀ a0 a1 k, LeO (impl_NetText.f k a0 a1) (impl_NetText.f (k + 1) a0 a1) := by
 intro a0 a1 k
 unfold impl_NetText.f
 exact LeO.bind (impl_NetValid.mono _ _ _) (fun _ => LeO.refl _)
set_option maxHeartbeats 2000000 in
set_option maxRecDepth 100000 in
/-- Of a network that is not valid there is no text: what the function answers for the others is not told here. -/
theorem impl_NetText.calls (k : Nat) (a0_0 : Int) (A0_1 : Option Addr) (c0_1 : Nat) (l0_1 : List (S42)) (r : ByteArray) (w : World) (hr0_1 : Kd.C k42 w A0_1 l0_1.length l0_1) (hc0_1 : l0_1.length ≤ c0_1) (h : impl_NetText.f k a0_0 l0_1 = some r) :
  Calls Tryd.prog 49 #[.agg #[.int .i64 a0_0, .slice A0_1 l0_1.length c0_1]] w fun e w' => e = .returned (.string r) ∧ Below w.heap.size w w' := by
 have hu25 := Tryd.underlying40
 have hu40 := Tryd.underlying42
 have HR0_1 := Aside0.mk hr0_1
 have HC0_1 := Aside0.mk hc0_1
 clear hr0_1 hc0_1
 have HB := Aside0.mk (Below.refl w.heap.size w)
 obtain ⟨t, ht, h⟩ := Option.bind_eq_some_iff.mp h
 cases t with
 | true => simp at h
 | false =>
  simp only [Bool.false_eq_true, if_false, Option.some.injEq] at h
  subst h
  have A4 := Aside0.mk ht
  clear ht
  go_enter Tryd.func49, Tryd.ntmps49
  go_wp2_with (first | ((with_reducible refine gate_dst (N := 1) rfl ?_); refine box_event ?hg (N := 1) ?hd (cs := #[.int .i64 a0_0, .slice A0_1 l0_1.length c0_1]) (t := 40) ?hr ?_; (case hd => rfl); (case hg => rfl); (case hr => first | (go_simp; done) | (go_simp; rfl)); intro gb109 hg w11 hbox hb; have n0_ := Aside0.mk (below_step HB.out hb); have GE109 := Aside0.mk ((by rw [hg]; exact (below_size HB.out)) : w.heap.size ≤ gb109); have BK109 := Aside0.mk hbox; clear HB; have HB := n0_; clear n0_ hb hbox hg; have hcz0 : w11.cell? ⟨gb109, 0, none⟩ = some (.int .i64 a0_0) := (blk_cell BK109.out 0).trans rfl; have hcz1 : w11.cell? ⟨gb109, 1, none⟩ = some (.slice A0_1 l0_1.length c0_1) := (blk_cell BK109.out 1).trans rfl; have hfz0 := blk_frozen BK109.out 0; have hfz1 := blk_frozen BK109.out 1) | (go_at_call 86; refine (impl_NetValid.calls k a0_0 _ _ l0_1 false _ (by repeat (first | exact (Kd.C_below HR0_1.out HB.out) | (with_reducible refine Kd.C_alloc ?_ _) | (with_reducible refine Kd.C_drewN ?_ _) | (with_reducible refine Kd.C_drew ?_))) HC0_1.out A4.out).mono ?_; rintro e w13 ⟨rfl, hb⟩; have n0_ := Aside0.mk (below_step HB.out hb); clear HB; have HB := n0_; clear n0_ hb))
  go_ret
  exact ⟨by first | rfl | (simp; done), bw⟩

/-! ### impl_OrderTo: function 15 -/
mutual
def impl_OrderTo.j0 : Nat → List Bool → List Bool → Bool → Option ((List (S87)))
 | 0, _, _, _ => none
 | k + 1, x0, x1, x17 => if x17 = true then (some ([] : List (S87))) else (impl_OrderTo.l0 k x0 x1 ([] : List (S87)) ([] : List (S87)) (x0.length : Int) 0)
def impl_OrderTo.l0 : Nat → List Bool → List Bool → List (S87) → List (S87) → Int → Int → Option ((List (S87)))
 | 0, _, _, _, _, _, _ => none
 | k + 1, x0, x1, x5, x6, x19, x20 => if x20 < x19 then (if 0 ≤ x20 then (if x20 < (x0.length : Int) then (if rdOf false x0 x20 = true then (if x20 < (x1.length : Int) then (impl_OrderTo.j2 k x0 x1 x5 x6 x20 x19 x20 (!(rdOf false x1 x20))) else (none)) else (impl_OrderTo.j2 k x0 x1 x5 x6 x20 x19 x20 false)) else (none)) else (none)) else (if x5.length + x6.length < 8796093022208 then (some (x5 ++ x6)) else (none))
def impl_OrderTo.j2 : Nat → List Bool → List Bool → List (S87) → List (S87) → Int → Int → Int → Bool → Option ((List (S87)))
 | 0, _, _, _, _, _, _, _, _ => none
 | k + 1, x0, x1, x5, x6, x7, x19, x20, x23 => if x23 = true then (if x5.length < 8796093022208 then (impl_OrderTo.l0 k x0 x1 (x5 ++ [(⟨x7, false⟩ : S87)]) x6 x19 (wrap64 (x20 + 1))) else (none)) else (if 0 ≤ x7 then (if x7 < (x1.length : Int) then (if rdOf false x1 x7 = true then (if x7 < (x0.length : Int) then (if rdOf false x0 x7 = true then (impl_OrderTo.l0 k x0 x1 x5 x6 x19 (wrap64 (x20 + 1))) else (if x6.length < 8796093022208 then (impl_OrderTo.l0 k x0 x1 x5 (x6 ++ [(⟨x7, true⟩ : S87)]) x19 (wrap64 (x20 + 1))) else (none))) else (none)) else (impl_OrderTo.l0 k x0 x1 x5 x6 x19 (wrap64 (x20 + 1)))) else (none)) else (none))
end
def impl_OrderTo.f (k : Nat) (l0 : List Bool) (l1 : List Bool) : Option ((List (S87))) := if (l0.length : Int) = (l1.length : Int) then (impl_OrderTo.j0 k l0 l1 (decide ((l0.length : Int) > 10))) else (impl_OrderTo.j0 k l0 l1 true)
theorem impl_OrderTo.mono_l : ∀ k, (∀ y0 y1 y2, LeO (impl_OrderTo.j0 k y0 y1 y2) (impl_OrderTo.j0 (k + 1) y0 y1 y2)) ∧ (∀ y0 y1 y2 y3 y4 y5, LeO (impl_OrderTo.l0 k y0 y1 y2 y3 y4 y5) (impl_OrderTo.l0 (k + 1) y0 y1 y2 y3 y4 y5)) ∧ (∀ y0 y1 y2 y3 y4 y5 y6 y7, LeO (impl_OrderTo.j2 k y0 y1 y2 y3 y4 y5 y6 y7) (impl_OrderTo.j2 (k + 1) y0 y1 y2 y3 y4 y5 y6 y7))
 | 0 => ⟨fun _ _ _ r h => by simp [impl_OrderTo.j0] at h, fun _ _ _ _ _ _ r h => by simp [impl_OrderTo.l0] at h, fun _ _ _ _ _ _ _ _ r h => by simp [impl_OrderTo.j2] at h⟩
 | k + 1 => by
  obtain ⟨ih0, ih1, ih2⟩ := impl_OrderTo.mono_l k
  refine ⟨?_, ?_, ?_⟩
  ·intro y0 y1 y2
   unfold impl_OrderTo.j0
   repeat' first
   | (with_reducible exact ih0 _ _ _)
   | (with_reducible exact ih1 _ _ _ _ _ _)
   | (with_reducible exact ih2 _ _ _ _ _ _ _ _)
   | (with_reducible exact LeO.refl _)
   | (with_reducible exact LeO.none _)
   | (with_reducible refine LeO.ite ?_ ?_)
   | (with_reducible refine LeO.bind ?_ (fun _ => ?_))
   | exact ih0 _ _ _
   | exact ih1 _ _ _ _ _ _
   | exact ih2 _ _ _ _ _ _ _ _
   | exact LeO.none _
   | refine LeO.ite ?_ ?_
   | refine LeO.bind ?_ (fun _ => ?_)
  ·intro y0 y1 y2 y3 y4 y5
   unfold impl_OrderTo.l0
   repeat' first
   | (with_reducible exact ih0 _ _ _)
   | (with_reducible exact ih1 _ _ _ _ _ _)
   | (with_reducible exact ih2 _ _ _ _ _ _ _ _)
   | (with_reducible exact LeO.refl _)
   | (with_reducible exact LeO.none _)
   | (with_reducible refine LeO.ite ?_ ?_)
   | (with_reducible refine LeO.bind ?_ (fun _ => ?_))
   | exact ih0 _ _ _
   | exact ih1 _ _ _ _ _ _
   | exact ih2 _ _ _ _ _ _ _ _
   | exact LeO.none _
   | refine LeO.ite ?_ ?_
   | refine LeO.bind ?_ (fun _ => ?_)
  ·intro y0 y1 y2 y3 y4 y5 y6 y7
   unfold impl_OrderTo.j2
   repeat' first
   | (with_reducible exact ih0 _ _ _)
   | (with_reducible exact ih1 _ _ _ _ _ _)
   | (with_reducible exact ih2 _ _ _ _ _ _ _ _)
   | (with_reducible exact LeO.refl _)
   | (with_reducible exact LeO.none _)
   | (with_reducible refine LeO.ite ?_ ?_)
   | (with_reducible refine LeO.bind ?_ (fun _ => ?_))
   | exact ih0 _ _ _
   | exact ih1 _ _ _ _ _ _
   | exact ih2 _ _ _ _ _ _ _ _
   | exact LeO.none _
   | refine LeO.ite ?_ ?_
   | refine LeO.bind ?_ (fun _ => ?_)
theorem impl_OrderTo.mono : ∀ a0 a1 k, LeO (impl_OrderTo.f k a0 a1) (impl_OrderTo.f (k + 1) a0 a1) := by
 intro a0 a1 k
 obtain ⟨ih0, ih1, ih2⟩ := impl_OrderTo.mono_l k
 unfold impl_OrderTo.f
 repeat' first
   | (with_reducible exact ih0 _ _ _)
   | (with_reducible exact ih1 _ _ _ _ _ _)
   | (with_reducible exact ih2 _ _ _ _ _ _ _ _)
   | (with_reducible exact LeO.refl _)
   | (with_reducible exact LeO.none _)
   | (with_reducible refine LeO.ite ?_ ?_)
   | (with_reducible refine LeO.bind ?_ (fun _ => ?_))
   | exact ih0 _ _ _
   | exact ih1 _ _ _ _ _ _
   | exact ih2 _ _ _ _ _ _ _ _
   | exact LeO.none _
   | refine LeO.ite ?_ ?_
   | refine LeO.bind ?_ (fun _ => ?_)
set_option maxHeartbeats 8000000 in
set_option maxRecDepth 100000 in
theorem impl_OrderTo.calls (k : Nat) (A0 : Option Addr) (c0 : Nat) (l0 : List Bool) (A1 : Option Addr) (c1 : Nat) (l1 : List Bool) (r : List (S87)) (w : World) (hr0 : Kd.C Kd.bool w A0 l0.length l0) (hc0 : l0.length ≤ c0) (hr1 : Kd.C Kd.bool w A1 l1.length l1) (hc1 : l1.length ≤ c1) (h : impl_OrderTo.f k l0 l1 = some r) :
  Calls Tryd.prog 15 #[.slice A0 l0.length c0, .slice A1 l1.length c1] w fun e w' => ∃ v0_ : Value, e = .returned (v0_) ∧ Kd.R k87 87 w' w.heap.size (fun _ => True) v0_ r ∧ Below w.heap.size w w' := by
 have hu87 := Tryd.underlying87
 have HR0 := Aside0.mk hr0
 have HC0 := Aside0.mk hc0
 clear hr0 hc0
 have HR1 := Aside0.mk hr1
 have HC1 := Aside0.mk hc1
 clear hr1 hc1
 have HB := Aside0.mk (Below.refl w.heap.size w)
 have H : (if (l0.length : Int) = (l1.length : Int) then (impl_OrderTo.j0 k l0 l1 (decide ((l0.length : Int) > 10))) else (impl_OrderTo.j0 k l0 l1 true)) = some r := h
 clear h
 have HC3 := Aside0.mk H
 clear H
 go_enter Tryd.func15, Tryd.ntmps15
 go_upto_region 1 with (fail)
 go_cut [17] (fun v17 wc => ∃ (kq : Nat) (x17_2 : Bool), v17 = .bool x17_2 ∧ Aside0 (impl_OrderTo.j0 kq l0 l1 x17_2 = some r) ∧ Aside0 (kq ≤ k) ∧ Aside0 (Below w.heap.size w wc))
 case first =>
  have H := HC3.out
  clear HC3
  by_cases c4 : (l0.length : Int) = (l1.length : Int)
  ·rw [if_pos c4] at H
   have c4b0 : ((l0.length : Int) == (l1.length : Int)) = true := beq_iff_eq.mpr c4
   have c4b1 : ((l0.length : Int) != (l1.length : Int)) = false := bne_eq_false_iff_eq.mpr c4
   have c4b2 : (l0.length == l1.length) = true := by first | simpa using c4 | (simp at c4 ⊢; omega)
   clear c4
   (first | rw [c4b0] | (simp only [i64_w, i32_w]; rw [c4b0]) | skip)
   have H' := Aside0.mk H
   clear H
   go_wp2
   go_meet
   case rel => exact ⟨_, (decide ((l0.length : Int) > 10)), (by first | rfl | (simp; done) | (simp [*]; done)), H', ⟨by first | omega | exact Nat.le_refl _⟩, ⟨bw⟩⟩
  ·rw [if_neg c4] at H
   have c4b0 : ((l0.length : Int) == (l1.length : Int)) = false := beq_eq_false_iff_ne.mpr c4
   have c4b1 : ((l0.length : Int) != (l1.length : Int)) = true := bne_iff_ne.mpr c4
   have c4b2 : (l0.length == l1.length) = false := by first | simpa using c4 | (simp at c4 ⊢; omega)
   (first | rw [c4b0] | (simp only [i64_w, i32_w]; rw [c4b0]) | skip)
   have H' := Aside0.mk H
   clear H
   go_wp2
   go_meet
   case rel => exact ⟨_, (true), (by first | rfl | (simp; done) | (simp [*]; done)), H', ⟨by first | omega | exact Nat.le_refl _⟩, ⟨bw⟩⟩
 case rest =>
  clear HC3
  try clear c1
  try clear p2
  try clear c4
  try clear c4b0
  try clear c4b1
  try clear c4b2
  obtain ⟨kq, x17_2, rfl, HA, HJ2, HB⟩ := hcut
  cases kq with
  | zero => exact absurd HA.out (by simp [impl_OrderTo.j0])
  | succ kj2 =>
   have H := HA.out
   clear HA
   simp only [impl_OrderTo.j0] at H
   by_cases c5 : x17_2 = true
   ·subst c5
    have H1 : (some ([] : List (S87))) = some r := by rw [if_pos rfl] at H; exact H
    clear H
    have H := H1
    clear H1
    obtain rfl := Option.some.inj H
    go_wp2
    go_ret
    exact ⟨_, by first | rfl | (simp [errW_none, errW_some] <;> rfl) | (simp [*, errW_none, errW_some] <;> rfl), by first | exact Kd.R_nil _ _ _ _ _ | exact Kd.N_nil _ _ _ _ _ | exact Kd.V_nil _ _ _ _ _ | exact Kd.Q_nil _ _ _ _ _ | exact Kd.S_nil _ _ _ _ _, bw⟩
   ·replace c5 := Bool.eq_false_iff.mpr c5
    subst c5
    have H1 : (impl_OrderTo.l0 kj2 l0 l1 ([] : List (S87)) ([] : List (S87)) (l0.length : Int) 0) = some r := by rw [if_neg (show ¬ (false = true) by decide)] at H; exact H
    clear H
    have H := H1
    clear H1
    have H' := Aside0.mk H
    clear H
    go_wp2
    go_loopg [5, 6, 20] kj2 (fun kq v5 v6 v20 w' => ∃ (x5_2 : List (S87)) (x6_2 : List (S87)) (x20_2 : Int), v20 = .int .i64 x20_2 ∧ Aside0 (impl_OrderTo.l0 kq l0 l1 x5_2 x6_2 (l0.length : Int) x20_2 = some r) ∧ Aside0 (kq ≤ kj2) ∧ Aside0 (Kd.R k87 87 w' w.heap.size (fun k_ => some k_ ≠ (v6 : Value).ownBlock) v5 x5_2) ∧ Aside0 (Kd.R k87 87 w' w.heap.size (fun k_ => some k_ ≠ (v5 : Value).ownBlock) v6 x6_2) ∧ Aside0 (Below w.heap.size w w'))
    case atStart => exact ⟨(([] : List (S87))), (([] : List (S87))), (0), (by first | rfl | (simp; done) | (simp [*]; done)), H', ⟨Nat.le_refl _⟩, ⟨by first | exact Kd.R_nil _ _ _ _ _ | exact Kd.N_nil _ _ _ _ _ | exact Kd.V_nil _ _ _ _ _ | exact Kd.Q_nil _ _ _ _ _ | exact Kd.S_nil _ _ _ _ _⟩, ⟨by first | exact Kd.R_nil _ _ _ _ _ | exact Kd.N_nil _ _ _ _ _ | exact Kd.V_nil _ _ _ _ _ | exact Kd.Q_nil _ _ _ _ _ | exact Kd.S_nil _ _ _ _ _⟩, ⟨bw⟩⟩
    case round =>
     clear H'
     try clear c1
     try clear p2
     try clear c4
     try clear c4b0
     try clear c4b1
     try clear c4b2
     try clear c5
     try clear p2
     obtain ⟨x5_2, x6_2, x20_2, rfl, HA, HK2, HO_5, HO_6, HB⟩ := hrel
     cases gk with
     | zero => exact absurd HA.out (by simp [impl_OrderTo.l0])
     | succ k2 =>
      have H := HA.out
      clear HA
      simp only [impl_OrderTo.l0] at H
      by_cases c6 : x20_2 < (l0.length : Int)
      ·rw [if_pos c6] at H
       have c6b0 : decide (x20_2 < (l0.length : Int)) = true := decide_eq_true c6
       clear c6
       have HC7 := Aside0.mk H
       clear H
       go_upto_region 7 with (fail)
       go_cut [23] (fun v23 wc => ∃ (kq : Nat) (x23_6 : Bool), v23 = .bool x23_6 ∧ Aside0 (impl_OrderTo.j2 kq l0 l1 x5_2 x6_2 x20_2 (l0.length : Int) x20_2 x23_6 = some r) ∧ Aside0 (kq ≤ k2) ∧ Aside0 (Kd.R k87 87 wc w.heap.size (fun k_ => some k_ ≠ (u6 : Value).ownBlock) u5 x5_2) ∧ Aside0 (Kd.R k87 87 wc w.heap.size (fun k_ => some k_ ≠ (u5 : Value).ownBlock) u6 x6_2) ∧ Aside0 (Below w.heap.size w wc))
       case first =>
        have H := HC7.out
        clear HC7
        by_cases c8 : 0 ≤ x20_2
        ·rw [if_pos c8] at H
         have c8b0 : decide (0 ≤ x20_2) = true := decide_eq_true c8
         clear c8
         (first | rw [c8b0] | (simp only [i64_w, i32_w]; rw [c8b0]) | skip)
         by_cases c9 : x20_2 < (l0.length : Int)
         ·rw [if_pos c9] at H
          have c9b0 : decide (x20_2 < (l0.length : Int)) = true := decide_eq_true c9
          clear c9
          obtain ⟨bq10, hbq10⟩ : ∃ b_ : Bool, b_ = (rdOf false l0 x20_2) := ⟨_, rfl⟩
          replace H : (if bq10 = true then (if x20_2 < (l1.length : Int) then (impl_OrderTo.j2 k2 l0 l1 x5_2 x6_2 x20_2 (l0.length : Int) x20_2 (!(rdOf false l1 x20_2))) else (none)) else (impl_OrderTo.j2 k2 l0 l1 x5_2 x6_2 x20_2 (l0.length : Int) x20_2 false)) = some r := by rw [← hbq10] at H; exact H
          have Nbq10 := Aside0.mk hbq10
          clear hbq10
          by_cases c11 : bq10 = true
          ·subst c11
           have H1 : (if x20_2 < (l1.length : Int) then (impl_OrderTo.j2 k2 l0 l1 x5_2 x6_2 x20_2 (l0.length : Int) x20_2 (!(rdOf false l1 x20_2))) else (none)) = some r := by rw [if_pos rfl] at H; exact H
           clear H
           have H := H1
           clear H1
           by_cases c12 : x20_2 < (l1.length : Int)
           ·rw [if_pos c12] at H
            have c12b0 : decide (x20_2 < (l1.length : Int)) = true := decide_eq_true c12
            clear c12
            have H' := Aside0.mk H
            clear H
            have p343 : 0 ≤ (x20_2 : Int) := of_decide_eq_true (by first | (with_reducible assumption) | assumption)
            have q343 : x20_2 < (l0.length : Int) := of_decide_eq_true (by first | (with_reducible assumption) | assumption)
            obtain ⟨ad343, e343, hx343_0⟩ := Kd.at_bool HR0.out x20_2 p343 q343
            (try rw [← Nbq10.out] at hx343_0)
            cases e343
            replace hx343_0 := (HB.out.cell (World.block_lt_of_cell? w _ hx343_0)).trans hx343_0
            replace p343 := eq_true p343
            replace q343 := eq_true q343
            have p344 : 0 ≤ (x20_2 : Int) := of_decide_eq_true (by first | (with_reducible assumption) | assumption)
            have q344 : x20_2 < (l1.length : Int) := of_decide_eq_true (by first | (with_reducible assumption) | assumption)
            obtain ⟨ad344, e344, hx344_0⟩ := Kd.at_bool HR1.out x20_2 p344 q344
            (try rw [← Nbq10.out] at hx344_0)
            cases e344
            replace hx344_0 := (HB.out.cell (World.block_lt_of_cell? w _ hx344_0)).trans hx344_0
            replace p344 := eq_true p344
            replace q344 := eq_true q344
            go_wp2
            go_meet
            case rel => exact ⟨_, (!(rdOf false l1 x20_2)), (by first | rfl | (simp; done) | (simp [*]; done)), H', ⟨by have := HJ2.out; have := HK2.out; first | omega | exact Nat.le_refl _⟩, ⟨rk HO_5⟩, ⟨rk HO_6⟩, ⟨bw⟩⟩
           ·rw [if_neg c12] at H
            exact absurd H (by simp)
          ·replace c11 := Bool.eq_false_iff.mpr c11
           subst c11
           have H1 : (impl_OrderTo.j2 k2 l0 l1 x5_2 x6_2 x20_2 (l0.length : Int) x20_2 false) = some r := by rw [if_neg (show ¬ (false = true) by decide)] at H; exact H
           clear H
           have H := H1
           clear H1
           have H' := Aside0.mk H
           clear H
           have p343 : 0 ≤ (x20_2 : Int) := of_decide_eq_true (by first | (with_reducible assumption) | assumption)
           have q343 : x20_2 < (l0.length : Int) := of_decide_eq_true (by first | (with_reducible assumption) | assumption)
           obtain ⟨ad343, e343, hx343_0⟩ := Kd.at_bool HR0.out x20_2 p343 q343
           (try rw [← Nbq10.out] at hx343_0)
           cases e343
           replace hx343_0 := (HB.out.cell (World.block_lt_of_cell? w _ hx343_0)).trans hx343_0
           replace p343 := eq_true p343
           replace q343 := eq_true q343
           go_wp2
           go_meet
           case rel => exact ⟨_, (false), (by first | rfl | (simp; done) | (simp [*]; done)), H', ⟨by have := HJ2.out; have := HK2.out; first | omega | exact Nat.le_refl _⟩, ⟨rk HO_5⟩, ⟨rk HO_6⟩, ⟨bw⟩⟩
         ·rw [if_neg c9] at H
          exact absurd H (by simp)
        ·rw [if_neg c8] at H
         exact absurd H (by simp)
       case rest =>
        clear HC7
        try clear c1
        try clear q1
        try clear p2
        try clear p3
        try clear q3
        try clear hx3
        try clear c4
        try clear c4b0
        try clear c4b1
        try clear c4b2
        try clear c5
        try clear c6
        try clear c6b0
        try clear c8
        try clear c8b0
        try clear c9
        try clear c9b0
        try clear q10
        try clear c11
        try clear c12
        try clear c12b0
        try clear hx343_0
        try clear hx344_0
        try clear p2
        try clear p343
        try clear p344
        try clear q343
        try clear q344
        obtain ⟨kq, x23_6, rfl, HA, HJ6, HO_5, HO_6, HB⟩ := hcut
        cases kq with
        | zero => exact absurd HA.out (by simp [impl_OrderTo.j2])
        | succ kj6 =>
         have H := HA.out
         clear HA
         simp only [impl_OrderTo.j2] at H
         by_cases c13 : x23_6 = true
         ·subst c13
          have H1 : (if x5_2.length < 8796093022208 then (impl_OrderTo.l0 kj6 l0 l1 (x5_2 ++ [(⟨x20_2, false⟩ : S87)]) x6_2 (l0.length : Int) (wrap64 (x20_2 + 1))) else (none)) = some r := by rw [if_pos rfl] at H; exact H
          clear H
          have H := H1
          clear H1
          by_cases c14 : x5_2.length < 8796093022208
          ·rw [if_pos c14] at H
           have LMc14 := Aside0.mk c14
           clear c14
           obtain ⟨y345, hy345⟩ : ∃ y_ : List (S87), y_ = (x5_2 ++ [(⟨x20_2, false⟩ : S87)]) := ⟨_, rfl⟩
           replace H : (impl_OrderTo.l0 kj6 l0 l1 y345 x6_2 (l0.length : Int) (wrap64 (x20_2 + 1))) = some r := by first | (rw [hy345]; with_reducible exact H) | (have H2_ := (Option.bind_some _ _).symm.trans H; rw [hy345]; with_reducible exact H2_) | (have H2_ := (Option.bind_some _ _).symm.trans H; with_reducible exact H2_) | with_reducible exact H | (rw [hy345]; exact H) | exact H
           have Ny345 := Aside0.mk hy345
           clear hy345
           have H' := Aside0.mk H
           clear H
           go_wp2_with (first | ((with_reducible refine gate_builtin (b := .append) (xs := #[.tmp 35, .tmp 38]) rfl ?_); (try (refine gate_guard (by rfl) ?_; dsimp only)); at_builtin; refine Kd.R_append k87 (w0 := w) w.heap.size rfl (.tmp 35) (.tmp 38) 35 87 (.agg #[(.int .i64 0), (.bool false)]) 16 rfl Tryd.underlying35 info87 rfl (by decide) (by omega) u5 x5_2 (⟨x20_2, false⟩ : S87) [.int .i64 x20_2, .bool false] (fun k_ => some k_ ≠ (u6 : Value).ownBlock) (fun _ => False) rfl rfl ?aP (fun _ hk => by first | exact hk.elim | grind) ?aF ?aO ?aB ?aS ?aL ?_; (case aP => exact k87_mkM _ _ _ (⟨x20_2, false⟩ : S87)); (case aB => exact bw); (case aF => exact (fun k_ hk => Kd.fresh' (Kd.R_lt (rk HO_6)) k_ hk)); (case aO => exact (rk HO_5)); (case aS => exact (below_size bw)); (case aL => have := LMc14.out; omega); intro v346 w15 ho hb hg hat; rw [← Ny345.out] at ho; have n0_ := Aside0.mk (Kd.R_after (ok := (fun _ => True)) (by (with_reducible repeat (first | apply Kd.R_alloc | apply Kd.R_drewN | apply Kd.R_drew)); exact Kd.R_mono HO_6.out (fun _ hk => by first | exact ⟨trivial, hk⟩ | grind)) hg hat); have n1_ := Aside0.mk (hb); have n2_ := Aside0.mk (ho); clear HO_6 HB HO_5; have HO_6 := n0_; have HB := n1_; have HO347 := n2_; clear n0_ n1_ n2_; clear ho hb hg hat))
           go_roundg kj6
           case measure => have := HJ2.out; have := HK2.out; have := HJ6.out; omega
           case rel => exact ⟨(y345), (x6_2), (wrap64 (x20_2 + 1)), (by first | rfl | (simp; done) | (simp [*]; done)), H', ⟨by have := HJ2.out; have := HK2.out; have := HJ6.out; omega⟩, ⟨rk HO347⟩, ⟨by (with_reducible repeat (first | apply Kd.R_alloc | apply Kd.R_drewN | apply Kd.R_drew)); exact Kd.R_mono HO_6.out (fun _ hk => by first | exact hk.2 | grind)⟩, ⟨bw⟩⟩
          ·rw [if_neg c14] at H
           exact absurd H (by simp)
         ·replace c13 := Bool.eq_false_iff.mpr c13
          subst c13
          have H1 : (if 0 ≤ x20_2 then (if x20_2 < (l1.length : Int) then (if rdOf false l1 x20_2 = true then (if x20_2 < (l0.length : Int) then (if rdOf false l0 x20_2 = true then (impl_OrderTo.l0 kj6 l0 l1 x5_2 x6_2 (l0.length : Int) (wrap64 (x20_2 + 1))) else (if x6_2.length < 8796093022208 then (impl_OrderTo.l0 kj6 l0 l1 x5_2 (x6_2 ++ [(⟨x20_2, true⟩ : S87)]) (l0.length : Int) (wrap64 (x20_2 + 1))) else (none))) else (none)) else (impl_OrderTo.l0 kj6 l0 l1 x5_2 x6_2 (l0.length : Int) (wrap64 (x20_2 + 1)))) else (none)) else (none)) = some r := by rw [if_neg (show ¬ (false = true) by decide)] at H; exact H
          clear H
          have H := H1
          clear H1
          by_cases c16 : 0 ≤ x20_2
          ·rw [if_pos c16] at H
           have c16b0 : decide (0 ≤ x20_2) = true := decide_eq_true c16
           clear c16
           by_cases c17 : x20_2 < (l1.length : Int)
           ·rw [if_pos c17] at H
            have c17b0 : decide (x20_2 < (l1.length : Int)) = true := decide_eq_true c17
            clear c17
            obtain ⟨bq18, hbq18⟩ : ∃ b_ : Bool, b_ = (rdOf false l1 x20_2) := ⟨_, rfl⟩
            replace H : (if bq18 = true then (if x20_2 < (l0.length : Int) then (if rdOf false l0 x20_2 = true then (impl_OrderTo.l0 kj6 l0 l1 x5_2 x6_2 (l0.length : Int) (wrap64 (x20_2 + 1))) else (if x6_2.length < 8796093022208 then (impl_OrderTo.l0 kj6 l0 l1 x5_2 (x6_2 ++ [(⟨x20_2, true⟩ : S87)]) (l0.length : Int) (wrap64 (x20_2 + 1))) else (none))) else (none)) else (impl_OrderTo.l0 kj6 l0 l1 x5_2 x6_2 (l0.length : Int) (wrap64 (x20_2 + 1)))) = some r := by rw [← hbq18] at H; exact H
            have Nbq18 := Aside0.mk hbq18
            clear hbq18
            by_cases c19 : bq18 = true
            ·subst c19
             have H1 : (if x20_2 < (l0.length : Int) then (if rdOf false l0 x20_2 = true then (impl_OrderTo.l0 kj6 l0 l1 x5_2 x6_2 (l0.length : Int) (wrap64 (x20_2 + 1))) else (if x6_2.length < 8796093022208 then (impl_OrderTo.l0 kj6 l0 l1 x5_2 (x6_2 ++ [(⟨x20_2, true⟩ : S87)]) (l0.length : Int) (wrap64 (x20_2 + 1))) else (none))) else (none)) = some r := by rw [if_pos rfl] at H; exact H
             clear H
             have H := H1
             clear H1
             by_cases c20 : x20_2 < (l0.length : Int)
             ·rw [if_pos c20] at H
              have c20b0 : decide (x20_2 < (l0.length : Int)) = true := decide_eq_true c20
              clear c20
              obtain ⟨bq21, hbq21⟩ : ∃ b_ : Bool, b_ = (rdOf false l0 x20_2) := ⟨_, rfl⟩
              replace H : (if bq21 = true then (impl_OrderTo.l0 kj6 l0 l1 x5_2 x6_2 (l0.length : Int) (wrap64 (x20_2 + 1))) else (if x6_2.length < 8796093022208 then (impl_OrderTo.l0 kj6 l0 l1 x5_2 (x6_2 ++ [(⟨x20_2, true⟩ : S87)]) (l0.length : Int) (wrap64 (x20_2 + 1))) else (none))) = some r := by rw [← hbq21] at H; exact H
              have Nbq21 := Aside0.mk hbq21
              clear hbq21
              by_cases c22 : bq21 = true
              ·subst c22
               have H1 : (impl_OrderTo.l0 kj6 l0 l1 x5_2 x6_2 (l0.length : Int) (wrap64 (x20_2 + 1))) = some r := by rw [if_pos rfl] at H; exact H
               clear H
               have H := H1
               clear H1
               have H' := Aside0.mk H
               clear H
               have p348 : 0 ≤ (x20_2 : Int) := of_decide_eq_true (by first | (with_reducible assumption) | assumption)
               have q348 : x20_2 < (l1.length : Int) := of_decide_eq_true (by first | (with_reducible assumption) | assumption)
               obtain ⟨ad348, e348, hx348_0⟩ := Kd.at_bool HR1.out x20_2 p348 q348
               (try rw [← Nbq18.out] at hx348_0)
               (try rw [← Nbq21.out] at hx348_0)
               cases e348
               replace hx348_0 := (HB.out.cell (World.block_lt_of_cell? w _ hx348_0)).trans hx348_0
               replace p348 := eq_true p348
               replace q348 := eq_true q348
               have p349 : 0 ≤ (x20_2 : Int) := of_decide_eq_true (by first | (with_reducible assumption) | assumption)
               have q349 : x20_2 < (l0.length : Int) := of_decide_eq_true (by first | (with_reducible assumption) | assumption)
               obtain ⟨ad349, e349, hx349_0⟩ := Kd.at_bool HR0.out x20_2 p349 q349
               (try rw [← Nbq18.out] at hx349_0)
               (try rw [← Nbq21.out] at hx349_0)
               cases e349
               replace hx349_0 := (HB.out.cell (World.block_lt_of_cell? w _ hx349_0)).trans hx349_0
               replace p349 := eq_true p349
               replace q349 := eq_true q349
               go_wp2
               go_roundg kj6
               case measure => have := HJ2.out; have := HK2.out; have := HJ6.out; omega
               case rel => exact ⟨(x5_2), (x6_2), (wrap64 (x20_2 + 1)), (by first | rfl | (simp; done) | (simp [*]; done)), H', ⟨by have := HJ2.out; have := HK2.out; have := HJ6.out; omega⟩, ⟨rk HO_5⟩, ⟨rk HO_6⟩, ⟨bw⟩⟩
              ·replace c22 := Bool.eq_false_iff.mpr c22
               subst c22
               have H1 : (if x6_2.length < 8796093022208 then (impl_OrderTo.l0 kj6 l0 l1 x5_2 (x6_2 ++ [(⟨x20_2, true⟩ : S87)]) (l0.length : Int) (wrap64 (x20_2 + 1))) else (none)) = some r := by rw [if_neg (show ¬ (false = true) by decide)] at H; exact H
               clear H
               have H := H1
               clear H1
               by_cases c23 : x6_2.length < 8796093022208
               ·rw [if_pos c23] at H
                have LMc23 := Aside0.mk c23
                clear c23
                obtain ⟨y350, hy350⟩ : ∃ y_ : List (S87), y_ = (x6_2 ++ [(⟨x20_2, true⟩ : S87)]) := ⟨_, rfl⟩
                replace H : (impl_OrderTo.l0 kj6 l0 l1 x5_2 y350 (l0.length : Int) (wrap64 (x20_2 + 1))) = some r := by first | (rw [hy350]; with_reducible exact H) | (have H2_ := (Option.bind_some _ _).symm.trans H; rw [hy350]; with_reducible exact H2_) | (have H2_ := (Option.bind_some _ _).symm.trans H; with_reducible exact H2_) | with_reducible exact H | (rw [hy350]; exact H) | exact H
                have Ny350 := Aside0.mk hy350
                clear hy350
                have H' := Aside0.mk H
                clear H
                have p348 : 0 ≤ (x20_2 : Int) := of_decide_eq_true (by first | (with_reducible assumption) | assumption)
                have q348 : x20_2 < (l1.length : Int) := of_decide_eq_true (by first | (with_reducible assumption) | assumption)
                obtain ⟨ad348, e348, hx348_0⟩ := Kd.at_bool HR1.out x20_2 p348 q348
                (try rw [← Nbq18.out] at hx348_0)
                (try rw [← Nbq21.out] at hx348_0)
                cases e348
                replace hx348_0 := (HB.out.cell (World.block_lt_of_cell? w _ hx348_0)).trans hx348_0
                replace p348 := eq_true p348
                replace q348 := eq_true q348
                have p349 : 0 ≤ (x20_2 : Int) := of_decide_eq_true (by first | (with_reducible assumption) | assumption)
                have q349 : x20_2 < (l0.length : Int) := of_decide_eq_true (by first | (with_reducible assumption) | assumption)
                obtain ⟨ad349, e349, hx349_0⟩ := Kd.at_bool HR0.out x20_2 p349 q349
                (try rw [← Nbq18.out] at hx349_0)
                (try rw [← Nbq21.out] at hx349_0)
                cases e349
                replace hx349_0 := (HB.out.cell (World.block_lt_of_cell? w _ hx349_0)).trans hx349_0
                replace p349 := eq_true p349
                replace q349 := eq_true q349
                go_wp2_with (first | ((with_reducible refine gate_builtin (b := .append) (xs := #[.tmp 52, .tmp 55]) rfl ?_); (try (refine gate_guard (by rfl) ?_; dsimp only)); at_builtin; refine Kd.R_append k87 (w0 := w) w.heap.size rfl (.tmp 52) (.tmp 55) 35 87 (.agg #[(.int .i64 0), (.bool false)]) 16 rfl Tryd.underlying35 info87 rfl (by decide) (by omega) u6 x6_2 (⟨x20_2, true⟩ : S87) [.int .i64 x20_2, .bool true] (fun k_ => some k_ ≠ (u5 : Value).ownBlock) (fun _ => False) rfl rfl ?aP (fun _ hk => by first | exact hk.elim | grind) ?aF ?aO ?aB ?aS ?aL ?_; (case aP => exact k87_mkM _ _ _ (⟨x20_2, true⟩ : S87)); (case aB => exact bw); (case aF => exact (fun k_ hk => Kd.fresh' (Kd.R_lt (rk HO_5)) k_ hk)); (case aO => exact (rk HO_6)); (case aS => exact (below_size bw)); (case aL => have := LMc23.out; omega); intro v351 w24 ho hb hg hat; rw [← Ny350.out] at ho; have n0_ := Aside0.mk (Kd.R_after (ok := (fun _ => True)) (by (with_reducible repeat (first | apply Kd.R_alloc | apply Kd.R_drewN | apply Kd.R_drew)); exact Kd.R_mono HO_5.out (fun _ hk => by first | exact ⟨trivial, hk⟩ | grind)) hg hat); have n1_ := Aside0.mk (hb); have n2_ := Aside0.mk (ho); clear HO_5 HB HO_6; have HO_5 := n0_; have HB := n1_; have HO352 := n2_; clear n0_ n1_ n2_; clear ho hb hg hat))
                go_roundg kj6
                case measure => have := HJ2.out; have := HK2.out; have := HJ6.out; omega
                case rel => exact ⟨(x5_2), (y350), (wrap64 (x20_2 + 1)), (by first | rfl | (simp; done) | (simp [*]; done)), H', ⟨by have := HJ2.out; have := HK2.out; have := HJ6.out; omega⟩, ⟨by (with_reducible repeat (first | apply Kd.R_alloc | apply Kd.R_drewN | apply Kd.R_drew)); exact Kd.R_mono HO_5.out (fun _ hk => by first | exact hk.2 | grind)⟩, ⟨rk HO352⟩, ⟨bw⟩⟩
               ·rw [if_neg c23] at H
                exact absurd H (by simp)
             ·rw [if_neg c20] at H
              exact absurd H (by simp)
            ·replace c19 := Bool.eq_false_iff.mpr c19
             subst c19
             have H1 : (impl_OrderTo.l0 kj6 l0 l1 x5_2 x6_2 (l0.length : Int) (wrap64 (x20_2 + 1))) = some r := by rw [if_neg (show ¬ (false = true) by decide)] at H; exact H
             clear H
             have H := H1
             clear H1
             have H' := Aside0.mk H
             clear H
             have p348 : 0 ≤ (x20_2 : Int) := of_decide_eq_true (by first | (with_reducible assumption) | assumption)
             have q348 : x20_2 < (l1.length : Int) := of_decide_eq_true (by first | (with_reducible assumption) | assumption)
             obtain ⟨ad348, e348, hx348_0⟩ := Kd.at_bool HR1.out x20_2 p348 q348
             (try rw [← Nbq18.out] at hx348_0)
             cases e348
             replace hx348_0 := (HB.out.cell (World.block_lt_of_cell? w _ hx348_0)).trans hx348_0
             replace p348 := eq_true p348
             replace q348 := eq_true q348
             go_wp2
             go_roundg kj6
             case measure => have := HJ2.out; have := HK2.out; have := HJ6.out; omega
             case rel => exact ⟨(x5_2), (x6_2), (wrap64 (x20_2 + 1)), (by first | rfl | (simp; done) | (simp [*]; done)), H', ⟨by have := HJ2.out; have := HK2.out; have := HJ6.out; omega⟩, ⟨rk HO_5⟩, ⟨rk HO_6⟩, ⟨bw⟩⟩
           ·rw [if_neg c17] at H
            exact absurd H (by simp)
          ·rw [if_neg c16] at H
           exact absurd H (by simp)
      ·rw [if_neg c6] at H
       have c6b0 : decide (x20_2 < (l0.length : Int)) = false := decide_eq_false c6
       clear c6
       by_cases c25 : x5_2.length + x6_2.length < 8796093022208
       ·rw [if_pos c25] at H
        have LMc25 := Aside0.mk c25
        clear c25
        obtain ⟨y340, hy340⟩ : ∃ y_ : List (S87), y_ = (x5_2 ++ x6_2) := ⟨_, rfl⟩
        replace H : (some y340) = some r := by first | (rw [hy340]; with_reducible exact H) | (have H2_ := (Option.bind_some _ _).symm.trans H; rw [hy340]; with_reducible exact H2_) | (have H2_ := (Option.bind_some _ _).symm.trans H; with_reducible exact H2_) | with_reducible exact H | (rw [hy340]; exact H) | exact H
        have Ny340 := Aside0.mk hy340
        clear hy340
        obtain rfl := Option.some.inj H
        obtain ⟨Ao27, co27, eo27⟩ := Kd.R_slice HO_6.out
        subst eo27
        go_wp2_with (first | ((with_reducible refine gate_builtin (b := .append) (xs := #[.tmp 58, .tmp 59]) rfl ?_); (try (refine gate_guard (by rfl) ?_; dsimp only)); at_builtin; refine Kd.R_append_rows k87 (w0 := w) w.heap.size rfl (.tmp 58) (.tmp 59) 35 87 (.agg #[(.int .i64 0), (.bool false)]) 16 rfl Tryd.underlying35 info87 rfl (by decide) (by omega) u5 x5_2 x6_2 _ _ _ (fun k_ => some k_ ≠ (.slice Ao27 x6_2.length co27 : Value).ownBlock) (fun _ => False) rfl rfl ?aO ?aR (fun _ _ h => h) (fun _ h => h.elim) ?aF ?aB ?aS ?aL ?_; (case aR => repeat (first | exact (Kd.R_reads' HO_6.out).2.2 | (with_reducible refine Kd.C_alloc ?_ _) | (with_reducible refine Kd.C_drewN ?_ _) | (with_reducible refine Kd.C_drew ?_))); (case aB => exact bw); (case aF => exact (fun k_ hk => Kd.fresh' (Kd.R_lt (rk HO_6)) k_ hk)); (case aO => exact (rk HO_5)); (case aS => exact (below_size bw)); (case aL => have := LMc25.out; omega); intro v341 w26 ho hb hg hat; rw [← Ny340.out] at ho; have n0_ := Aside0.mk (Kd.R_after (ok := (fun _ => True)) (by (with_reducible repeat (first | apply Kd.R_alloc | apply Kd.R_drewN | apply Kd.R_drew)); exact Kd.R_mono HO_6.out (fun _ hk => by first | exact ⟨trivial, hk⟩ | grind)) hg hat); have n1_ := Aside0.mk (hb); have n2_ := Aside0.mk (ho); clear HO_6 HB HO_5; have HO_6 := n0_; have HB := n1_; have HO342 := n2_; clear n0_ n1_ n2_; clear ho hb hg hat))
        go_ret
        exact ⟨_, by first | rfl | (simp [errW_none, errW_some] <;> rfl) | (simp [*, errW_none, errW_some] <;> rfl), by (with_reducible repeat (first | apply Kd.R_alloc | apply Kd.R_drewN | apply Kd.R_drew)); exact Kd.R_mono HO342.out (fun _ hk => trivial), bw⟩
       ·rw [if_neg c25] at H
        exact absurd H (by simp)

/-! ### impl_OrderValid: function 36 -/
def impl_OrderValid.l0 : Nat → List (S87) → Int → Int → Option (Bool)
 | 0, _, _, _ => none
 | k + 1, x8, x9, x10 => if x10 < x9 then (if 0 ≤ x10 then (if x10 < (x8.length : Int) then (if ((rd_T87 x8 x10).f0) < 0 then (some false) else (if ((rd_T87 x8 x10).f0) ≥ 10 then (some false) else (impl_OrderValid.l0 k x8 x9 (wrap64 (x10 + 1))))) else (none)) else (none)) else (some true)
def impl_OrderValid.f (k : Nat) (l0 : List (S87)) : Option (Bool) := if (l0.length : Int) > 12 then (some false) else (impl_OrderValid.l0 k l0 (l0.length : Int) 0)
theorem impl_OrderValid.mono_l : ∀ k, (∀ y0 y1 y2, LeO (impl_OrderValid.l0 k y0 y1 y2) (impl_OrderValid.l0 (k + 1) y0 y1 y2))
 | 0 => fun _ _ _ r h => by simp [impl_OrderValid.l0] at h
 | k + 1 => by
  have ih0 := impl_OrderValid.mono_l k
  ·intro y0 y1 y2
   unfold impl_OrderValid.l0
   repeat' first
   | (with_reducible exact ih0 _ _ _)
   | (with_reducible exact LeO.refl _)
   | (with_reducible exact LeO.none _)
   | (with_reducible refine LeO.ite ?_ ?_)
   | (with_reducible refine LeO.bind ?_ (fun _ => ?_))
   | exact ih0 _ _ _
   | exact LeO.none _
   | refine LeO.ite ?_ ?_
   | refine LeO.bind ?_ (fun _ => ?_)
theorem impl_OrderValid.mono : ∀ a0 k, LeO (impl_OrderValid.f k a0) (impl_OrderValid.f (k + 1) a0) := by
 intro a0 k
 have ih0 := impl_OrderValid.mono_l k
 unfold impl_OrderValid.f
 repeat' first
   | (with_reducible exact ih0 _ _ _)
   | (with_reducible exact LeO.refl _)
   | (with_reducible exact LeO.none _)
   | (with_reducible refine LeO.ite ?_ ?_)
   | (with_reducible refine LeO.bind ?_ (fun _ => ?_))
   | exact ih0 _ _ _
   | exact LeO.none _
   | refine LeO.ite ?_ ?_
   | refine LeO.bind ?_ (fun _ => ?_)
set_option maxHeartbeats 8000000 in
set_option maxRecDepth 100000 in
theorem impl_OrderValid.calls (k : Nat) (A0 : Option Addr) (c0 : Nat) (l0 : List (S87)) (r : Bool) (w : World) (hr0 : Kd.C k87 w A0 l0.length l0) (hc0 : l0.length ≤ c0) (h : impl_OrderValid.f k l0 = some r) :
  Calls Tryd.prog 36 #[.slice A0 l0.length c0] w fun e w' => e = .returned (.bool r) ∧ Below w.heap.size w w' := by
 have hu87 := Tryd.underlying87
 have HR0 := Aside0.mk hr0
 have HC0 := Aside0.mk hc0
 clear hr0 hc0
 have HB := Aside0.mk (Below.refl w.heap.size w)
 have H : (if (l0.length : Int) > 12 then (some false) else (impl_OrderValid.l0 k l0 (l0.length : Int) 0)) = some r := h
 clear h
 by_cases c2 : (l0.length : Int) > 12
 ·rw [if_pos c2] at H
  have c2b0 : decide (12 < (l0.length : Int)) = true := decide_eq_true c2
  have c2b1 : decide (12 < l0.length) = true := decide_eq_true (by omega)
  clear c2
  obtain rfl := Option.some.inj H
  go_enter Tryd.func36, Tryd.ntmps36
  go_wp2
  go_ret
  exact ⟨by first | rfl | (simp [errW_none, errW_some] <;> rfl) | (simp [*, errW_none, errW_some] <;> rfl), bw⟩
 ·rw [if_neg c2] at H
  have c2b0 : decide (12 < (l0.length : Int)) = false := decide_eq_false c2
  have c2b1 : decide (12 < l0.length) = false := decide_eq_false (by omega)
  clear c2
  have H' := Aside0.mk H
  clear H
  go_enter Tryd.func36, Tryd.ntmps36
  go_wp2
  go_loopg [10] k (fun kq v10 w' => ∃ (x10_1 : Int), v10 = .int .i64 x10_1 ∧ Aside0 (impl_OrderValid.l0 kq l0 (l0.length : Int) x10_1 = some r) ∧ Aside0 (kq ≤ k) ∧ Aside0 (Below w.heap.size w w'))
  case atStart => exact ⟨(0), (by first | rfl | (simp; done) | (simp [*]; done)), H', ⟨Nat.le_refl _⟩, ⟨bw⟩⟩
  case round =>
   clear H'
   try clear c2
   try clear c2b0
   try clear c2b1
   try clear p2
   obtain ⟨x10_1, rfl, HA, HK1, HB⟩ := hrel
   cases gk with
   | zero => exact absurd HA.out (by simp [impl_OrderValid.l0])
   | succ k1 =>
    have H := HA.out
    clear HA
    simp only [impl_OrderValid.l0] at H
    by_cases c3 : x10_1 < (l0.length : Int)
    ·rw [if_pos c3] at H
     have c3b0 : decide (x10_1 < (l0.length : Int)) = true := decide_eq_true c3
     clear c3
     by_cases c4 : 0 ≤ x10_1
     ·rw [if_pos c4] at H
      have c4b0 : decide (0 ≤ x10_1) = true := decide_eq_true c4
      clear c4
      by_cases c5 : x10_1 < (l0.length : Int)
      ·rw [if_pos c5] at H
       have c5b0 : decide (x10_1 < (l0.length : Int)) = true := decide_eq_true c5
       clear c5
       by_cases c6 : ((rd_T87 l0 x10_1).f0) < 0
       ·rw [if_pos c6] at H
        have c6b0 : decide (((rd_T87 l0 x10_1).f0) < 0) = true := decide_eq_true c6
        clear c6
        obtain rfl := Option.some.inj H
        have p381 : 0 ≤ (x10_1 : Int) := of_decide_eq_true (by first | (with_reducible assumption) | assumption)
        have q381 : x10_1 < (l0.length : Int) := of_decide_eq_true (by first | (with_reducible assumption) | assumption)
        obtain ⟨ad381, e381, hx381_0, hx381_1⟩ := at_T87 HR0.out x10_1 p381 q381
        cases e381
        replace hx381_0 := (HB.out.cell (World.block_lt_of_cell? w _ hx381_0)).trans hx381_0
        replace hx381_1 := (HB.out.cell (World.block_lt_of_cell? w _ hx381_1)).trans hx381_1
        replace p381 := eq_true p381
        replace q381 := eq_true q381
        go_wp2_with (first | ((with_reducible refine gate_dst (N := 4) rfl ?_); refine box_event ?hg (N := 4) ?hd (cs := #[.int .i64 0, .bool false]) (t := 87) ?hr ?_; (case hd => rfl); (case hg => rfl); (case hr => first | (go_simp; done) | (go_simp; rfl)); intro gb382 hg w7 hbox hb; have n0_ := Aside0.mk (below_step bw hb); have n1_ := Aside0.mk (hbox); have n2_ := Aside0.mk ((by rw [hg]; exact (below_size bw) : w.heap.size ≤ gb382)); have n3_ := Aside0.mk ((by rw [hg]; exact (below_size bw) : w.heap.size ≤ gb382)); clear HB; have HB := n0_; have BK382 := n1_; have GW382 := n2_; have GE382 := n3_; clear n0_ n1_ n2_ n3_; clear hb hbox hg; have hcz8_0 : w7.cell? ⟨gb382, 0, none⟩ = some (.int .i64 0) := (blk_cell BK382.out 0).trans rfl; have hcz8_1 : w7.cell? ⟨gb382, 1, none⟩ = some (.bool false) := (blk_cell BK382.out 1).trans rfl; have hfz8_0 := blk_frozen BK382.out 0; have hfz8_1 := blk_frozen BK382.out 1))
        go_ret
        exact ⟨by first | rfl | (simp [errW_none, errW_some] <;> rfl) | (simp [*, errW_none, errW_some] <;> rfl), bw⟩
       ·rw [if_neg c6] at H
        have c6b0 : decide (((rd_T87 l0 x10_1).f0) < 0) = false := decide_eq_false c6
        clear c6
        by_cases c9 : ((rd_T87 l0 x10_1).f0) ≥ 10
        ·rw [if_pos c9] at H
         have c9b0 : decide (10 ≤ ((rd_T87 l0 x10_1).f0)) = true := decide_eq_true c9
         clear c9
         obtain rfl := Option.some.inj H
         have p381 : 0 ≤ (x10_1 : Int) := of_decide_eq_true (by first | (with_reducible assumption) | assumption)
         have q381 : x10_1 < (l0.length : Int) := of_decide_eq_true (by first | (with_reducible assumption) | assumption)
         obtain ⟨ad381, e381, hx381_0, hx381_1⟩ := at_T87 HR0.out x10_1 p381 q381
         cases e381
         replace hx381_0 := (HB.out.cell (World.block_lt_of_cell? w _ hx381_0)).trans hx381_0
         replace hx381_1 := (HB.out.cell (World.block_lt_of_cell? w _ hx381_1)).trans hx381_1
         replace p381 := eq_true p381
         replace q381 := eq_true q381
         go_wp2_with (first | ((with_reducible refine gate_dst (N := 4) rfl ?_); refine box_event ?hg (N := 4) ?hd (cs := #[.int .i64 0, .bool false]) (t := 87) ?hr ?_; (case hd => rfl); (case hg => rfl); (case hr => first | (go_simp; done) | (go_simp; rfl)); intro gb382 hg w10 hbox hb; have n0_ := Aside0.mk (below_step bw hb); have n1_ := Aside0.mk (hbox); have n2_ := Aside0.mk ((by rw [hg]; exact (below_size bw) : w.heap.size ≤ gb382)); have n3_ := Aside0.mk ((by rw [hg]; exact (below_size bw) : w.heap.size ≤ gb382)); clear HB; have HB := n0_; have BK382 := n1_; have GW382 := n2_; have GE382 := n3_; clear n0_ n1_ n2_ n3_; clear hb hbox hg; have hcz11_0 : w10.cell? ⟨gb382, 0, none⟩ = some (.int .i64 0) := (blk_cell BK382.out 0).trans rfl; have hcz11_1 : w10.cell? ⟨gb382, 1, none⟩ = some (.bool false) := (blk_cell BK382.out 1).trans rfl; have hfz11_0 := blk_frozen BK382.out 0; have hfz11_1 := blk_frozen BK382.out 1))
         go_ret
         exact ⟨by first | rfl | (simp [errW_none, errW_some] <;> rfl) | (simp [*, errW_none, errW_some] <;> rfl), bw⟩
        ·rw [if_neg c9] at H
         have c9b0 : decide (10 ≤ ((rd_T87 l0 x10_1).f0)) = false := decide_eq_false c9
         clear c9
         have H' := Aside0.mk H
         clear H
         have p381 : 0 ≤ (x10_1 : Int) := of_decide_eq_true (by first | (with_reducible assumption) | assumption)
         have q381 : x10_1 < (l0.length : Int) := of_decide_eq_true (by first | (with_reducible assumption) | assumption)
         obtain ⟨ad381, e381, hx381_0, hx381_1⟩ := at_T87 HR0.out x10_1 p381 q381
         cases e381
         replace hx381_0 := (HB.out.cell (World.block_lt_of_cell? w _ hx381_0)).trans hx381_0
         replace hx381_1 := (HB.out.cell (World.block_lt_of_cell? w _ hx381_1)).trans hx381_1
         replace p381 := eq_true p381
         replace q381 := eq_true q381
         go_wp2_with (first | ((with_reducible refine gate_dst (N := 4) rfl ?_); refine box_event ?hg (N := 4) ?hd (cs := #[.int .i64 0, .bool false]) (t := 87) ?hr ?_; (case hd => rfl); (case hg => rfl); (case hr => first | (go_simp; done) | (go_simp; rfl)); intro gb382 hg w12 hbox hb; have n0_ := Aside0.mk (below_step bw hb); have n1_ := Aside0.mk (hbox); have n2_ := Aside0.mk ((by rw [hg]; exact (below_size bw) : w.heap.size ≤ gb382)); have n3_ := Aside0.mk ((by rw [hg]; exact (below_size bw) : w.heap.size ≤ gb382)); clear HB; have HB := n0_; have BK382 := n1_; have GW382 := n2_; have GE382 := n3_; clear n0_ n1_ n2_ n3_; clear hb hbox hg; have hcz13_0 : w12.cell? ⟨gb382, 0, none⟩ = some (.int .i64 0) := (blk_cell BK382.out 0).trans rfl; have hcz13_1 : w12.cell? ⟨gb382, 1, none⟩ = some (.bool false) := (blk_cell BK382.out 1).trans rfl; have hfz13_0 := blk_frozen BK382.out 0; have hfz13_1 := blk_frozen BK382.out 1))
         go_roundg k1
         case measure => have := HK1.out; omega
         case rel => exact ⟨(wrap64 (x10_1 + 1)), (by first | rfl | (simp; done) | (simp [*]; done)), H', ⟨by have := HK1.out; omega⟩, ⟨bw⟩⟩
      ·rw [if_neg c5] at H
       exact absurd H (by simp)
     ·rw [if_neg c4] at H
      exact absurd H (by simp)
    ·rw [if_neg c3] at H
     have c3b0 : decide (x10_1 < (l0.length : Int)) = false := decide_eq_false c3
     clear c3
     obtain rfl := Option.some.inj H
     go_wp2
     go_ret
     exact ⟨by first | rfl | (simp [errW_none, errW_some] <;> rfl) | (simp [*, errW_none, errW_some] <;> rfl), bw⟩

/-! ### impl_StateValid: function 54 -/
def impl_StateValid.f (k : Nat) (a0_0 : Int) (l0_1 : List (S42)) (l1 : List Bool) : Option (Bool) := (impl_NetValid.f k a0_0 l0_1).bind fun t384 => (if t384 = true then (some ((l1.length : Int) == (l0_1.length : Int))) else (some false))
theorem impl_StateValid.mono : ∀ a0 a1 a2 k, LeO (impl_StateValid.f k a0 a1 a2) (impl_StateValid.f (k + 1) a0 a1 a2) := by
 intro a0 a1 a2 k
 unfold impl_StateValid.f
 repeat' first
   | (with_reducible exact impl_NetValid.mono _ _ _)
   | (with_reducible exact LeO.refl _)
   | (with_reducible exact LeO.none _)
   | (with_reducible refine LeO.ite ?_ ?_)
   | (with_reducible refine LeO.bind ?_ (fun _ => ?_))
   | exact impl_NetValid.mono _ _ _
   | exact LeO.none _
   | refine LeO.ite ?_ ?_
   | refine LeO.bind ?_ (fun _ => ?_)
set_option maxHeartbeats 8000000 in
set_option maxRecDepth 100000 in
theorem impl_StateValid.calls (k : Nat) (a0_0 : Int) (A0_1 : Option Addr) (c0_1 : Nat) (l0_1 : List (S42)) (A1 : Option Addr) (c1 : Nat) (l1 : List Bool) (r : Bool) (w : World) (hr0_1 : Kd.C k42 w A0_1 l0_1.length l0_1) (hc0_1 : l0_1.length ≤ c0_1) (hr1 : Kd.C Kd.bool w A1 l1.length l1) (hc1 : l1.length ≤ c1) (h : impl_StateValid.f k a0_0 l0_1 l1 = some r) :
  Calls Tryd.prog 54 #[.agg #[.int .i64 a0_0, .slice A0_1 l0_1.length c0_1], .slice A1 l1.length c1] w fun e w' => e = .returned (.bool r) ∧ Below w.heap.size w w' := by
 have hu40 := Tryd.underlying40
 have HR0_1 := Aside0.mk hr0_1
 have HC0_1 := Aside0.mk hc0_1
 clear hr0_1 hc0_1
 have HR1 := Aside0.mk hr1
 have HC1 := Aside0.mk hc1
 clear hr1 hc1
 have HB := Aside0.mk (Below.refl w.heap.size w)
 have H : ((impl_NetValid.f k a0_0 l0_1).bind fun t384 => (if t384 = true then (some ((l1.length : Int) == (l0_1.length : Int))) else (some false))) = some r := h
 clear h
 replace H := Option.bind_eq_some_iff.mp H
 obtain ⟨t384, A30, H⟩ := H
 replace H : (if t384 = true then (some ((l1.length : Int) == (l0_1.length : Int))) else (some false)) = some r := H
 have A3 := Aside0.mk A30
 clear A30
 by_cases c4 : t384 = true
 ·subst c4
  have H1 : (some ((l1.length : Int) == (l0_1.length : Int))) = some r := by rw [if_pos rfl] at H; exact H
  clear H
  have H := H1
  clear H1
  obtain rfl := Option.some.inj H
  go_enter Tryd.func54, Tryd.ntmps54
  go_wp2_with (first | ((with_reducible refine gate_dst (N := 2) rfl ?_); (try (refine gate_guard (by rfl) ?_; dsimp only)); refine box_event ?hg (N := 2) ?hd (cs := #[.int .i64 a0_0, .slice A0_1 l0_1.length c0_1]) (t := 40) ?hr ?_; (case hd => rfl); (case hg => rfl); (case hr => first | (go_simp; done) | (go_simp; rfl)); intro gb383 hg w5 hbox hb; have n0_ := Aside0.mk (below_step bw hb); have n1_ := Aside0.mk (hbox); have n2_ := Aside0.mk ((by rw [hg]; exact (below_size bw) : w.heap.size ≤ gb383)); have n3_ := Aside0.mk ((by rw [hg]; exact (below_size bw) : w.heap.size ≤ gb383)); clear HB; have HB := n0_; have BK383 := n1_; have GW383 := n2_; have GE383 := n3_; clear n0_ n1_ n2_ n3_; clear hb hbox hg; have hcz6_0 : w5.cell? ⟨gb383, 0, none⟩ = some (.int .i64 a0_0) := (blk_cell BK383.out 0).trans rfl; have hcz6_1 : w5.cell? ⟨gb383, 1, none⟩ = some (.slice A0_1 l0_1.length c0_1) := (blk_cell BK383.out 1).trans rfl; have hfz6_0 := blk_frozen BK383.out 0; have hfz6_1 := blk_frozen BK383.out 1) | ((with_reducible refine gate_callee (f := 86) rfl ?_); refine goesL_ (some 6) rfl rfl Tryd.func86 (by kernel_rfl) rfl #[.agg #[.int .i64 a0_0, .slice A0_1 l0_1.length c0_1]] rfl (by (try simp only [List.map_toArray, List.map_cons, List.map_nil]); first | done | rfl | (simp only [List.length_drop, List.length_take]; rfl)) ?_; (with_reducible refine (impl_NetValid.calls k a0_0 _ _ l0_1 true _ ?side1 ?side2 A3.out).mono ?_); (case side1 => exact cb HR0_1); (case side2 => exact HC0_1.out); rintro e w7 ⟨rfl, hb⟩; refine ⟨_, rfl, ?_⟩; have n0_ := bkB BK383 hb; have n1_ := Aside0.mk (below_step bw hb); clear BK383 HB; have BK383 := n0_; have HB := n1_; clear n0_ n1_; (try clear hb); (try clear hb2); (try clear hk); (try clear hi); have hcz8_0 : w7.cell? ⟨gb383, 0, none⟩ = some (.int .i64 a0_0) := (blk_cell BK383.out 0).trans rfl; have hcz8_1 : w7.cell? ⟨gb383, 1, none⟩ = some (.slice A0_1 l0_1.length c0_1) := (blk_cell BK383.out 1).trans rfl; have hfz8_0 := blk_frozen BK383.out 0; have hfz8_1 := blk_frozen BK383.out 1))
  go_ret
  exact ⟨by first | rfl | (simp [errW_none, errW_some] <;> rfl) | (simp [*, errW_none, errW_some] <;> rfl), bw⟩
 ·replace c4 := Bool.eq_false_iff.mpr c4
  subst c4
  have H1 : (some false) = some r := by rw [if_neg (show ¬ (false = true) by decide)] at H; exact H
  clear H
  have H := H1
  clear H1
  obtain rfl := Option.some.inj H
  go_enter Tryd.func54, Tryd.ntmps54
  go_wp2_with (first | ((with_reducible refine gate_dst (N := 2) rfl ?_); (try (refine gate_guard (by rfl) ?_; dsimp only)); refine box_event ?hg (N := 2) ?hd (cs := #[.int .i64 a0_0, .slice A0_1 l0_1.length c0_1]) (t := 40) ?hr ?_; (case hd => rfl); (case hg => rfl); (case hr => first | (go_simp; done) | (go_simp; rfl)); intro gb383 hg w9 hbox hb; have n0_ := Aside0.mk (below_step bw hb); have n1_ := Aside0.mk (hbox); have n2_ := Aside0.mk ((by rw [hg]; exact (below_size bw) : w.heap.size ≤ gb383)); have n3_ := Aside0.mk ((by rw [hg]; exact (below_size bw) : w.heap.size ≤ gb383)); clear HB; have HB := n0_; have BK383 := n1_; have GW383 := n2_; have GE383 := n3_; clear n0_ n1_ n2_ n3_; clear hb hbox hg; have hcz10_0 : w9.cell? ⟨gb383, 0, none⟩ = some (.int .i64 a0_0) := (blk_cell BK383.out 0).trans rfl; have hcz10_1 : w9.cell? ⟨gb383, 1, none⟩ = some (.slice A0_1 l0_1.length c0_1) := (blk_cell BK383.out 1).trans rfl; have hfz10_0 := blk_frozen BK383.out 0; have hfz10_1 := blk_frozen BK383.out 1) | ((with_reducible refine gate_callee (f := 86) rfl ?_); refine goesL_ (some 6) rfl rfl Tryd.func86 (by kernel_rfl) rfl #[.agg #[.int .i64 a0_0, .slice A0_1 l0_1.length c0_1]] rfl (by (try simp only [List.map_toArray, List.map_cons, List.map_nil]); first | done | rfl | (simp only [List.length_drop, List.length_take]; rfl)) ?_; (with_reducible refine (impl_NetValid.calls k a0_0 _ _ l0_1 false _ ?side1 ?side2 A3.out).mono ?_); (case side1 => exact cb HR0_1); (case side2 => exact HC0_1.out); rintro e w11 ⟨rfl, hb⟩; refine ⟨_, rfl, ?_⟩; have n0_ := bkB BK383 hb; have n1_ := Aside0.mk (below_step bw hb); clear BK383 HB; have BK383 := n0_; have HB := n1_; clear n0_ n1_; (try clear hb); (try clear hb2); (try clear hk); (try clear hi)))
  go_ret
  exact ⟨by first | rfl | (simp [errW_none, errW_some] <;> rfl) | (simp [*, errW_none, errW_some] <;> rfl), bw⟩

/-! ### slices_Clone_bool_bool: function 55 -/
def slices_Clone_bool_bool.f (l0 : List Bool) : Option (List Bool) := if l0.length < 140737488355328 then some l0 else none
set_option maxHeartbeats 8000000 in
set_option maxRecDepth 100000 in
/-- A copy: of nothing nothing, of a row a row of its own. -/
theorem slices_Clone_bool_bool.calls (A0 : Option Addr) (c0 : Nat) (l0 : List Bool) (r : List Bool) (w : World) (hr0 : Kd.C Kd.bool w A0 l0.length l0) (hc0 : l0.length ≤ c0) (h : slices_Clone_bool_bool.f l0 = some r) :
  Calls Tryd.prog 55 #[.slice A0 l0.length c0] w fun e w' => ∃ v0_ : Value, e = .returned (v0_) ∧ Kd.R Kd.bool 4 w' w.heap.size (fun _ => True) v0_ r ∧ Below w.heap.size w w' := by
 unfold slices_Clone_bool_bool.f at h
 by_cases hlim : l0.length < 140737488355328
 case neg =>
  rw [if_neg hlim] at h
  cases h
 rw [if_pos hlim] at h
 obtain rfl := Option.some.inj h
 clear h
 cases A0 with
 | none =>
  have hl : l0 = [] := by
   refine List.eq_nil_of_length_eq_zero (Nat.eq_zero_of_not_pos fun hp => ?_)
   obtain ⟨ad, e, _⟩ := hr0.2.2 hp
   cases e
  subst hl
  have qnil : ∀ (w : World) (a : Option Addr) (n c : Nat), (binOp .eql 23 (.slice a n c) (.slice none 0 0)).run Tryd.prog w = .ok (.bool a.isNone) w := fun w a n c => Lib.run_eql_slice_nil w 23 4 a n c 0 0 Tryd.underlying23
  go_enter Tryd.func55, Tryd.ntmps55
  go_wp2
  go_ret
  exact ⟨_, rfl, Kd.R_nil _ _ _ _ _, by repeat (first | (with_reducible first | exact Below.refl _ _ | apply below_alloc | apply pw_below_drewN | apply below_drew1) | exact Below.refl _ _)⟩
 | some a =>
  have HR0 := Aside0.mk hr0
  have HC0 := Aside0.mk hc0
  clear hr0 hc0
  have HB := Aside0.mk (Below.refl w.heap.size w)
  obtain ⟨y160, hy160⟩ : ∃ y_ : List Bool, y_ = (([] : List Bool)) := ⟨_, rfl⟩
  have Ny160 := Aside0.mk hy160
  have LMc2 : Aside0 (y160.length + l0.length < 140737488355328) := ⟨by rw [hy160]; simpa using hlim⟩
  obtain ⟨y163, hy163⟩ : ∃ y_ : List Bool, y_ = (y160 ++ l0) := ⟨_, rfl⟩
  have Ny163 := Aside0.mk hy163
  have e163 : y163 = l0 := by rw [hy163, hy160]; rfl
  clear hy160 hy163
  have qnil : ∀ (w : World) (a : Option Addr) (n c : Nat), (binOp .eql 23 (.slice a n c) (.slice none 0 0)).run Tryd.prog w = .ok (.bool a.isNone) w := fun w a n c => Lib.run_eql_slice_nil w 23 4 a n c 0 0 Tryd.underlying23
  go_enter Tryd.func55, Tryd.ntmps55
  go_wp2_with (first | ((with_reducible refine gate_dst (N := 5) rfl ?_); refine Kd.R_lit Kd.bool _ 4 ?hg (N := 5) ?hd (xs := ([] : List Bool)) (inner := []) (ok := fun _ => True) (okp := fun _ => True) ?hr ?hp (fun _ hk => by first | exact hk | grind) trivial (Below.refl _ _) (Nat.le_refl _) (by simp) ?_; (case hd => rfl); (case hg => rfl); (case hr => first | (go_simp; done) | (go_simp; rfl)); (case hp => exact (Reps.none _ _)); intro v161 w3 ho4 hb hg_ hnew_; clear hg_ hnew_; (first | rw [← Ny160.out] at ho4 | (simp only [Int.reduceToNat] at ho4; rw [← Ny160.out] at ho4)); have n0_ := Aside0.mk (Kd.R_lower ho4 (below_size bw)); have n1_ := Aside0.mk (below_step bw hb); clear HB; have HO162 := n0_; have HB := n1_; clear n0_ n1_; clear hb ho4) | ((with_reducible refine gate_builtin (b := .append) (xs := #[.tmp 5, .tmp 6]) rfl ?_); at_builtin; refine Kd.R_append_rows Kd.bool (w0 := w) w.heap.size rfl (.tmp 5) (.tmp 6) 23 4 (.bool false) 1 rfl Tryd.underlying23 info4 rfl (by decide) (by omega) v161 y160 l0 _ _ _ (fun _ => True) (fun _ => False) rfl rfl ?aO ?aR (fun _ _ h => h) (fun _ h => h.elim) ?aF ?aB ?aS ?aL ?_; (case aR => exact cb HR0); (case aB => exact bw); (case aF => exact (fun _ _ => trivial)); (case aO => exact (rk HO162)); (case aS => exact (below_size bw)); (case aL => have := LMc2.out; omega); intro v164 w5 ho hb hg hat; rw [← Ny163.out] at ho; have n0_ := Aside0.mk (hb); have n1_ := Aside0.mk (ho); clear HB HO162; have HB := n0_; have HO165 := n1_; clear n0_ n1_; clear ho hb hg hat))
  go_ret
  refine ⟨_, rfl, ?_, bw⟩
  rw [← e163]
  (with_reducible repeat (first | apply Kd.R_alloc | apply Kd.R_drewN | apply Kd.R_drew))
  exact HO165.out

end Go.Proofs.YtihmidnjiaomhaaDoor.G
