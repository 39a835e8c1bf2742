-- Printed by wip/gen.py of this session's repo, over the kit's print.py. Not trusted: Lean checks it.
import Derived.Test.YtoajkfhjgnonjaaDoorGx0
import Derived.Test.YtoajkfhjgnonjaaDoorSq
import Derived.Test.YtoajkfhjgnonjaaDoorGx1
import Derived.Test.YtoajkfhjgnonjaaDoorGx2
import Derived.Test.YtoajkfhjgnonjaaDoorGx5
namespace Go.Proofs.YtoajkfhjgnonjaaDoor.G
open Go.RowKit Go.Proofs.YtoajkfhjgnonjaaDoorW.PrintWords Go.Proofs.YtoajkfhjgnonjaaDoorW.PrintLast Go.Proofs.YtoajkfhjgnonjaaDoorW.PrintMore Go.Proofs.YtoajkfhjgnonjaaDoor.Sq
attribute [local go_sem] max2_int min2_int max_two min_two max_three min_three max_four min_four   -- for this text's walks alone
set_option linter.unusedVariables false
set_option linter.unusedSimpArgs false

/-! ### impl_BarsValid: function 52 -/
mutual
def impl_BarsValid.j0 : Nat → Bool → List Int → Bool → Option (Bool)
 | 0, _, _, _ => none
 | k + 1, x14, x300000, x300001 => if x14 = true then (some false) else (impl_BarsValid.l0 k x300000 (x300000.length : Int) 0 x300000 x300001)
def impl_BarsValid.l0 : Nat → List Int → Int → Int → List Int → Bool → Option (Bool)
 | 0, _, _, _, _, _ => none
 | k + 1, x16, x17, x18, x300000, x300001 => if x18 < x17 then (if 0 ≤ x18 then (if x18 < (x16.length : Int) then (if (rd x16 x18) < 1 then (some false) else (if (rd x16 x18) > 3 then (some false) else (if (rd x16 x18) = 3 then (if x300001 = true then (impl_BarsValid.l0 k x16 x17 (wrap64 (x18 + 1)) x300000 x300001) else (some false)) else (impl_BarsValid.l0 k x16 x17 (wrap64 (x18 + 1)) x300000 x300001)))) else (none)) else (none)) else (some true)
end
def impl_BarsValid.f (k : Nat) (l0_0 : List Int) (a0_1 : Bool) : Option (Bool) := if (l0_0.length : Int) < 1 then (impl_BarsValid.j0 k true l0_0 a0_1) else (impl_BarsValid.j0 k (decide ((l0_0.length : Int) > 6)) l0_0 a0_1)
theorem impl_BarsValid.mono_l : ∀ k, (∀ y0 y1 y2, LeO (impl_BarsValid.j0 k y0 y1 y2) (impl_BarsValid.j0 (k + 1) y0 y1 y2)) ∧ (∀ y0 y1 y2 y3 y4, LeO (impl_BarsValid.l0 k y0 y1 y2 y3 y4) (impl_BarsValid.l0 (k + 1) y0 y1 y2 y3 y4))
 | 0 => ⟨fun _ _ _ r h => by simp [impl_BarsValid.j0] at h, fun _ _ _ _ _ r h => by simp [impl_BarsValid.l0] at h⟩
 | k + 1 => by
  obtain ⟨ih0, ih1⟩ := impl_BarsValid.mono_l k
  refine ⟨?_, ?_⟩
  ·intro y0 y1 y2
   unfold impl_BarsValid.j0
   repeat' first
   | (with_reducible exact ih0 _ _ _)
   | (with_reducible exact ih1 _ _ _ _ _)
   | (with_reducible exact LeO.refl _)
   | (with_reducible exact LeO.none _)
   | (with_reducible refine LeO.ite ?_ ?_)
   | (with_reducible refine LeO.bind ?_ (fun _ => ?_))
   | exact ih0 _ _ _
   | exact ih1 _ _ _ _ _
   | exact LeO.none _
   | refine LeO.ite ?_ ?_
   | refine LeO.bind ?_ (fun _ => ?_)
  ·intro y0 y1 y2 y3 y4
   unfold impl_BarsValid.l0
   repeat' first
   | (with_reducible exact ih0 _ _ _)
   | (with_reducible exact ih1 _ _ _ _ _)
   | (with_reducible exact LeO.refl _)
   | (with_reducible exact LeO.none _)
   | (with_reducible refine LeO.ite ?_ ?_)
   | (with_reducible refine LeO.bind ?_ (fun _ => ?_))
   | exact ih0 _ _ _
   | exact ih1 _ _ _ _ _
   | exact LeO.none _
   | refine LeO.ite ?_ ?_
   | refine LeO.bind ?_ (fun _ => ?_)
theorem impl_BarsValid.mono : ∀ a0 a1 k, LeO (impl_BarsValid.f k a0 a1) (impl_BarsValid.f (k + 1) a0 a1) := by
 intro a0 a1 k
 obtain ⟨ih0, ih1⟩ := impl_BarsValid.mono_l k
 unfold impl_BarsValid.f
 repeat' first
   | (with_reducible exact ih0 _ _ _)
   | (with_reducible exact ih1 _ _ _ _ _)
   | (with_reducible exact LeO.refl _)
   | (with_reducible exact LeO.none _)
   | (with_reducible refine LeO.ite ?_ ?_)
   | (with_reducible refine LeO.bind ?_ (fun _ => ?_))
   | exact ih0 _ _ _
   | exact ih1 _ _ _ _ _
   | exact LeO.none _
   | refine LeO.ite ?_ ?_
   | refine LeO.bind ?_ (fun _ => ?_)
set_option maxHeartbeats 8000000 in
set_option maxRecDepth 100000 in
theorem impl_BarsValid.calls (k : Nat) (A0_0 : Option Addr) (c0_0 : Nat) (l0_0 : List Int) (a0_1 : Bool) (r : Bool) (w : World) (hr0_0 : Kd.C (Kd.int .i64) w A0_0 l0_0.length l0_0) (hc0_0 : l0_0.length ≤ c0_0) (h : impl_BarsValid.f k l0_0 a0_1 = some r) :
  Calls Tryd.prog 52 #[.agg #[.slice A0_0 l0_0.length c0_0, .bool a0_1]] w fun e w' => e = .returned (.bool r) ∧ Below w.heap.size w w' := by
 have hu72 := Tryd.underlying72
 have HR0_0 := Aside0.mk hr0_0
 have HC0_0 := Aside0.mk hc0_0
 clear hr0_0 hc0_0
 have HB := Aside0.mk (Below.refl w.heap.size w)
 have H : (if (l0_0.length : Int) < 1 then (impl_BarsValid.j0 k true l0_0 a0_1) else (impl_BarsValid.j0 k (decide ((l0_0.length : Int) > 6)) l0_0 a0_1)) = some r := h
 clear h
 have HC2 := Aside0.mk H
 clear H
 go_enter Tryd.func52, Tryd.ntmps52
 go_upto_region 1 with (first | ((with_reducible refine gate_dst (N := 1) rfl ?_); (try (refine gate_guard (by rfl) ?_; dsimp only)); refine box_event ?hg (N := 1) ?hd (cs := #[.slice A0_0 l0_0.length c0_0, .bool a0_1]) (t := 72) ?hr ?_; (case hd => rfl); (case hg => rfl); (case hr => first | (go_simp; done) | (go_simp; rfl)); intro gb299 hg w3 hbox hb; have n0_ := Aside0.mk (below_step bw hb); have n1_ := Aside0.mk (hbox); have n2_ := Aside0.mk ((by rw [hg]; exact (below_size bw) : w.heap.size ≤ gb299)); have n3_ := Aside0.mk ((by rw [hg]; exact (below_size bw) : w.heap.size ≤ gb299)); clear HB; have HB := n0_; have BK299 := n1_; have GW299 := n2_; have GE299 := n3_; clear n0_ n1_ n2_ n3_; clear hb hbox hg))
 (try simp only [Act.put, List.setIfInBounds_toArray, List.set_cons_zero, List.set_cons_succ])
 go_cut [14] (fun v14 wc => ∃ (kq : Nat) (x14_1 : Bool), v14 = .bool x14_1 ∧ Aside0 (impl_BarsValid.j0 kq x14_1 l0_0 a0_1 = some r) ∧ Aside0 (kq ≤ k) ∧ Aside0 (wc.heap[gb299]? = some (.cells #[(.slice A0_0 l0_0.length c0_0), .bool a0_1] 72 (0, 0))) ∧ Aside0 (Below w.heap.size w wc))
 case first =>
  have H := HC2.out
  clear HC2
  by_cases c4 : (l0_0.length : Int) < 1
  ·rw [if_pos c4] at H
   have c4b0 : decide ((l0_0.length : Int) < 1) = true := decide_eq_true c4
   have c4b1 : decide (l0_0.length < 1) = true := decide_eq_true (by omega)
   clear c4
   (first | rw [c4b0] | (simp only [i64_w, i32_w]; rw [c4b0]) | skip)
   have H' := Aside0.mk H
   clear H
   have hcz5_0 : w3.cell? ⟨gb299, 0, none⟩ = some (.slice A0_0 l0_0.length c0_0) := (blk_cell BK299.out 0).trans rfl
   have hcz5_1 : w3.cell? ⟨gb299, 1, none⟩ = some (.bool a0_1) := (blk_cell BK299.out 1).trans rfl
   have hfz5_0 := blk_frozen BK299.out 0
   have hfz5_1 := blk_frozen BK299.out 1
   go_wp2
   go_meet
   case rel => exact ⟨_, (true), (by first | rfl | (simp; done) | (simp [*]; done)), H', ⟨by first | omega | exact Nat.le_refl _⟩, ⟨bk BK299⟩, ⟨bw⟩⟩
  ·rw [if_neg c4] at H
   have c4b0 : decide ((l0_0.length : Int) < 1) = false := decide_eq_false c4
   have c4b1 : decide (l0_0.length < 1) = false := decide_eq_false (by omega)
   clear c4
   (first | rw [c4b0] | (simp only [i64_w, i32_w]; rw [c4b0]) | skip)
   have H' := Aside0.mk H
   clear H
   have hcz6_0 : w3.cell? ⟨gb299, 0, none⟩ = some (.slice A0_0 l0_0.length c0_0) := (blk_cell BK299.out 0).trans rfl
   have hcz6_1 : w3.cell? ⟨gb299, 1, none⟩ = some (.bool a0_1) := (blk_cell BK299.out 1).trans rfl
   have hfz6_0 := blk_frozen BK299.out 0
   have hfz6_1 := blk_frozen BK299.out 1
   go_wp2
   go_meet
   case rel => exact ⟨_, (decide ((l0_0.length : Int) > 6)), (by first | rfl | (simp; done) | (simp [*]; done)), H', ⟨by first | omega | exact Nat.le_refl _⟩, ⟨bk BK299⟩, ⟨bw⟩⟩
 case rest =>
  clear HC2
  try clear p2
  try clear c4
  try clear c4b0
  try clear c4b1
  try clear c5
  try clear hcz5_0
  try clear hcz5_1
  try clear hcz6_0
  try clear hcz6_1
  try clear hfz5_0
  try clear hfz5_1
  try clear hfz6_0
  try clear hfz6_1
  obtain ⟨kq, x14_1, rfl, HA, HJ1, BK299, HB⟩ := hcut
  cases kq with
  | zero => exact absurd HA.out (by simp [impl_BarsValid.j0])
  | succ kj1 =>
   have H := HA.out
   clear HA
   simp only [impl_BarsValid.j0] at H
   by_cases c7 : x14_1 = true
   ·subst c7
    have H1 : (some false) = some r := by rw [if_pos rfl] at H; exact H
    clear H
    have H := H1
    clear H1
    obtain rfl := Option.some.inj H
    go_wp2
    go_ret
    exact ⟨by first | rfl | (simp [errW_none, errW_some] <;> rfl) | (simp [*, errW_none, errW_some] <;> rfl), bw⟩
   ·replace c7 := Bool.eq_false_iff.mpr c7
    subst c7
    have H1 : (impl_BarsValid.l0 kj1 l0_0 (l0_0.length : Int) 0 l0_0 a0_1) = some r := by rw [if_neg (show ¬ (false = true) by decide)] at H; exact H
    clear H
    have H := H1
    clear H1
    have H' := Aside0.mk H
    clear H
    have hcz8_0 : wc.cell? ⟨gb299, 0, none⟩ = some (.slice A0_0 l0_0.length c0_0) := (blk_cell BK299.out 0).trans rfl
    have hcz8_1 : wc.cell? ⟨gb299, 1, none⟩ = some (.bool a0_1) := (blk_cell BK299.out 1).trans rfl
    have hfz8_0 := blk_frozen BK299.out 0
    have hfz8_1 := blk_frozen BK299.out 1
    go_wp2
    go_loopg [18] kj1 (fun kq v18 w' => ∃ (x18_2 : Int), v18 = .int .i64 x18_2 ∧ Aside0 (impl_BarsValid.l0 kq l0_0 (l0_0.length : Int) x18_2 l0_0 a0_1 = some r) ∧ Aside0 (kq ≤ kj1) ∧ Aside0 (w'.heap[gb299]? = some (.cells #[(.slice A0_0 l0_0.length c0_0), .bool a0_1] 72 (0, 0))) ∧ Aside0 (Below w.heap.size w w'))
    case atStart => exact ⟨(0), (by first | rfl | (simp; done) | (simp [*]; done)), H', ⟨Nat.le_refl _⟩, ⟨bk BK299⟩, ⟨bw⟩⟩
    case round =>
     clear H'
     try clear p2
     try clear c4
     try clear c4b0
     try clear c4b1
     try clear c5
     try clear c7
     try clear hcz5_0
     try clear hcz5_1
     try clear hcz6_0
     try clear hcz6_1
     try clear hcz8_0
     try clear hcz8_1
     try clear hfz5_0
     try clear hfz5_1
     try clear hfz6_0
     try clear hfz6_1
     try clear hfz8_0
     try clear hfz8_1
     try clear p2
     obtain ⟨x18_2, rfl, HA, HK2, BK299, HB⟩ := hrel
     cases gk with
     | zero => exact absurd HA.out (by simp [impl_BarsValid.l0])
     | succ k2 =>
      have H := HA.out
      clear HA
      simp only [impl_BarsValid.l0] at H
      by_cases c9 : x18_2 < (l0_0.length : Int)
      ·rw [if_pos c9] at H
       have c9b0 : decide (x18_2 < (l0_0.length : Int)) = true := decide_eq_true c9
       clear c9
       by_cases c10 : 0 ≤ x18_2
       ·rw [if_pos c10] at H
        have c10b0 : decide (0 ≤ x18_2) = true := decide_eq_true c10
        clear c10
        by_cases c11 : x18_2 < (l0_0.length : Int)
        ·rw [if_pos c11] at H
         have c11b0 : decide (x18_2 < (l0_0.length : Int)) = true := decide_eq_true c11
         clear c11
         by_cases c12 : (rd l0_0 x18_2) < 1
         ·rw [if_pos c12] at H
          have c12b0 : decide ((rd l0_0 x18_2) < 1) = true := decide_eq_true c12
          clear c12
          obtain rfl := Option.some.inj H
          have p300 : 0 ≤ (x18_2 : Int) := of_decide_eq_true (by first | (with_reducible assumption) | assumption)
          have q300 : x18_2 < (l0_0.length : Int) := of_decide_eq_true (by first | (with_reducible assumption) | assumption)
          obtain ⟨ad300, e300, hx300_0⟩ := Kd.at_int HR0_0.out x18_2 p300 q300
          cases e300
          replace hx300_0 := (HB.out.cell (World.block_lt_of_cell? w _ hx300_0)).trans hx300_0
          replace p300 := eq_true p300
          replace q300 := eq_true q300
          go_wp2
          go_ret
          exact ⟨by first | rfl | (simp [errW_none, errW_some] <;> rfl) | (simp [*, errW_none, errW_some] <;> rfl), bw⟩
         ·rw [if_neg c12] at H
          have c12b0 : decide ((rd l0_0 x18_2) < 1) = false := decide_eq_false c12
          clear c12
          by_cases c13 : (rd l0_0 x18_2) > 3
          ·rw [if_pos c13] at H
           have c13b0 : decide (3 < (rd l0_0 x18_2)) = true := decide_eq_true c13
           clear c13
           obtain rfl := Option.some.inj H
           have p300 : 0 ≤ (x18_2 : Int) := of_decide_eq_true (by first | (with_reducible assumption) | assumption)
           have q300 : x18_2 < (l0_0.length : Int) := of_decide_eq_true (by first | (with_reducible assumption) | assumption)
           obtain ⟨ad300, e300, hx300_0⟩ := Kd.at_int HR0_0.out x18_2 p300 q300
           cases e300
           replace hx300_0 := (HB.out.cell (World.block_lt_of_cell? w _ hx300_0)).trans hx300_0
           replace p300 := eq_true p300
           replace q300 := eq_true q300
           go_wp2
           go_ret
           exact ⟨by first | rfl | (simp [errW_none, errW_some] <;> rfl) | (simp [*, errW_none, errW_some] <;> rfl), bw⟩
          ·rw [if_neg c13] at H
           have c13b0 : decide (3 < (rd l0_0 x18_2)) = false := decide_eq_false c13
           clear c13
           by_cases c14 : (rd l0_0 x18_2) = 3
           ·rw [if_pos c14] at H
            have c14b0 : ((rd l0_0 x18_2) == 3) = true := beq_iff_eq.mpr c14
            have c14b1 : ((rd l0_0 x18_2) != 3) = false := bne_eq_false_iff_eq.mpr c14
            clear c14
            by_cases c15 : a0_1 = true
            ·subst c15
             have H1 : (impl_BarsValid.l0 k2 l0_0 (l0_0.length : Int) (wrap64 (x18_2 + 1)) l0_0 true) = some r := by rw [if_pos rfl] at H; exact H
             clear H
             have H := H1
             clear H1
             have H' := Aside0.mk H
             clear H
             have p300 : 0 ≤ (x18_2 : Int) := of_decide_eq_true (by first | (with_reducible assumption) | assumption)
             have q300 : x18_2 < (l0_0.length : Int) := of_decide_eq_true (by first | (with_reducible assumption) | assumption)
             obtain ⟨ad300, e300, hx300_0⟩ := Kd.at_int HR0_0.out x18_2 p300 q300
             cases e300
             replace hx300_0 := (HB.out.cell (World.block_lt_of_cell? w _ hx300_0)).trans hx300_0
             replace p300 := eq_true p300
             replace q300 := eq_true q300
             have hcz16_0 : wr.cell? ⟨gb299, 0, none⟩ = some (.slice (some ad300) l0_0.length c0_0) := (blk_cell BK299.out 0).trans rfl
             have hcz16_1 : wr.cell? ⟨gb299, 1, none⟩ = some (.bool true) := (blk_cell BK299.out 1).trans rfl
             have hfz16_0 := blk_frozen BK299.out 0
             have hfz16_1 := blk_frozen BK299.out 1
             go_wp2
             go_roundg k2
             case measure => have := HJ1.out; have := HK2.out; omega
             case rel => exact ⟨(wrap64 (x18_2 + 1)), (by first | rfl | (simp; done) | (simp [*]; done)), H', ⟨by have := HJ1.out; have := HK2.out; omega⟩, ⟨bk BK299⟩, ⟨bw⟩⟩
            ·replace c15 := Bool.eq_false_iff.mpr c15
             subst c15
             have H1 : (some false) = some r := by rw [if_neg (show ¬ (false = true) by decide)] at H; exact H
             clear H
             have H := H1
             clear H1
             obtain rfl := Option.some.inj H
             have p300 : 0 ≤ (x18_2 : Int) := of_decide_eq_true (by first | (with_reducible assumption) | assumption)
             have q300 : x18_2 < (l0_0.length : Int) := of_decide_eq_true (by first | (with_reducible assumption) | assumption)
             obtain ⟨ad300, e300, hx300_0⟩ := Kd.at_int HR0_0.out x18_2 p300 q300
             cases e300
             replace hx300_0 := (HB.out.cell (World.block_lt_of_cell? w _ hx300_0)).trans hx300_0
             replace p300 := eq_true p300
             replace q300 := eq_true q300
             have hcz17_0 : wr.cell? ⟨gb299, 0, none⟩ = some (.slice (some ad300) l0_0.length c0_0) := (blk_cell BK299.out 0).trans rfl
             have hcz17_1 : wr.cell? ⟨gb299, 1, none⟩ = some (.bool false) := (blk_cell BK299.out 1).trans rfl
             have hfz17_0 := blk_frozen BK299.out 0
             have hfz17_1 := blk_frozen BK299.out 1
             go_wp2
             go_ret
             exact ⟨by first | rfl | (simp [errW_none, errW_some] <;> rfl) | (simp [*, errW_none, errW_some] <;> rfl), bw⟩
           ·rw [if_neg c14] at H
            have c14b0 : ((rd l0_0 x18_2) == 3) = false := beq_eq_false_iff_ne.mpr c14
            have c14b1 : ((rd l0_0 x18_2) != 3) = true := bne_iff_ne.mpr c14
            have H' := Aside0.mk H
            clear H
            have p300 : 0 ≤ (x18_2 : Int) := of_decide_eq_true (by first | (with_reducible assumption) | assumption)
            have q300 : x18_2 < (l0_0.length : Int) := of_decide_eq_true (by first | (with_reducible assumption) | assumption)
            obtain ⟨ad300, e300, hx300_0⟩ := Kd.at_int HR0_0.out x18_2 p300 q300
            cases e300
            replace hx300_0 := (HB.out.cell (World.block_lt_of_cell? w _ hx300_0)).trans hx300_0
            replace p300 := eq_true p300
            replace q300 := eq_true q300
            go_wp2
            go_roundg k2
            case measure => have := HJ1.out; have := HK2.out; omega
            case rel => exact ⟨(wrap64 (x18_2 + 1)), (by first | rfl | (simp; done) | (simp [*]; done)), H', ⟨by have := HJ1.out; have := HK2.out; omega⟩, ⟨bk BK299⟩, ⟨bw⟩⟩
        ·rw [if_neg c11] at H
         exact absurd H (by simp)
       ·rw [if_neg c10] at H
        exact absurd H (by simp)
      ·rw [if_neg c9] at H
       have c9b0 : decide (x18_2 < (l0_0.length : Int)) = false := decide_eq_false c9
       clear c9
       obtain rfl := Option.some.inj H
       go_wp2
       go_ret
       exact ⟨by first | rfl | (simp [errW_none, errW_some] <;> rfl) | (simp [*, errW_none, errW_some] <;> rfl), bw⟩

/-! ### spec_BarsValid: function 53 -/
def spec_BarsValid.l0 : Nat → Int → List Int → Bool → Option (Bool)
 | 0, _, _, _ => none
 | k + 1, x3, x302000, x302001 => if x3 < (x302000.length : Int) then (if 0 ≤ x3 then ((spec_l1In.f (rd x302000 x3) 1 3).bind fun t303 => (if t303 = true then (if (rd x302000 x3) = 3 then (if x302001 = true then (spec_BarsValid.l0 k (wrap64 (x3 + 1)) x302000 x302001) else (some false)) else (spec_BarsValid.l0 k (wrap64 (x3 + 1)) x302000 x302001)) else (some false))) else (none)) else ((spec_l1In.f (x302000.length : Int) 1 6).bind fun t305 => (some t305))
def spec_BarsValid.f (k : Nat) (l0_0 : List Int) (a0_1 : Bool) : Option (Bool) := spec_BarsValid.l0 k 0 l0_0 a0_1
theorem spec_BarsValid.mono_l : ∀ k, (∀ y0 y1 y2, LeO (spec_BarsValid.l0 k y0 y1 y2) (spec_BarsValid.l0 (k + 1) y0 y1 y2))
 | 0 => fun _ _ _ r h => by simp [spec_BarsValid.l0] at h
 | k + 1 => by
  have ih0 := spec_BarsValid.mono_l k
  ·intro y0 y1 y2
   unfold spec_BarsValid.l0
   repeat' first
   | (with_reducible exact ih0 _ _ _)
   | (with_reducible exact LeO.refl _)
   | (with_reducible exact LeO.none _)
   | (with_reducible refine LeO.ite ?_ ?_)
   | (with_reducible refine LeO.bind ?_ (fun _ => ?_))
   | exact ih0 _ _ _
   | exact LeO.none _
   | refine LeO.ite ?_ ?_
   | refine LeO.bind ?_ (fun _ => ?_)
theorem spec_BarsValid.mono : ∀ a0 a1 k, LeO (spec_BarsValid.f k a0 a1) (spec_BarsValid.f (k + 1) a0 a1) := by
 intro a0 a1 k
 have ih0 := spec_BarsValid.mono_l k
 unfold spec_BarsValid.f
 repeat' first
   | (with_reducible exact ih0 _ _ _)
   | (with_reducible exact LeO.refl _)
   | (with_reducible exact LeO.none _)
   | (with_reducible refine LeO.ite ?_ ?_)
   | (with_reducible refine LeO.bind ?_ (fun _ => ?_))
   | exact ih0 _ _ _
   | exact LeO.none _
   | refine LeO.ite ?_ ?_
   | refine LeO.bind ?_ (fun _ => ?_)
set_option maxHeartbeats 8000000 in
set_option maxRecDepth 100000 in
theorem spec_BarsValid.calls (k : Nat) (A0_0 : Option Addr) (c0_0 : Nat) (l0_0 : List Int) (a0_1 : Bool) (r : Bool) (w : World) (hr0_0 : Kd.C (Kd.int .i64) w A0_0 l0_0.length l0_0) (hc0_0 : l0_0.length ≤ c0_0) (h : spec_BarsValid.f k l0_0 a0_1 = some r) :
  Calls Tryd.prog 53 #[.agg #[.slice A0_0 l0_0.length c0_0, .bool a0_1]] w fun e w' => e = .returned (.bool r) ∧ Below w.heap.size w w' := by
 have hu72 := Tryd.underlying72
 have HR0_0 := Aside0.mk hr0_0
 have HC0_0 := Aside0.mk hc0_0
 clear hr0_0 hc0_0
 have HB := Aside0.mk (Below.refl w.heap.size w)
 have H : (spec_BarsValid.l0 k 0 l0_0 a0_1) = some r := h
 clear h
 have H' := Aside0.mk H
 clear H
 go_enter Tryd.func53, Tryd.ntmps53
 go_wp2_with (first | ((with_reducible refine gate_dst (N := 1) rfl ?_); refine box_event ?hg (N := 1) ?hd (cs := #[.slice A0_0 l0_0.length c0_0, .bool a0_1]) (t := 72) ?hr ?_; (case hd => rfl); (case hg => rfl); (case hr => first | (go_simp; done) | (go_simp; rfl)); intro gb301 hg w2 hbox hb; have n0_ := Aside0.mk (below_step bw hb); have n1_ := Aside0.mk (hbox); have n2_ := Aside0.mk ((by rw [hg]; exact (below_size bw) : w.heap.size ≤ gb301)); have n3_ := Aside0.mk ((by rw [hg]; exact (below_size bw) : w.heap.size ≤ gb301)); clear HB; have HB := n0_; have BK301 := n1_; have GW301 := n2_; have GE301 := n3_; clear n0_ n1_ n2_ n3_; clear hb hbox hg))
 go_loopg [3] k (fun kq v3 w' => ∃ (x3_1 : Int), v3 = .int .i64 x3_1 ∧ Aside0 (spec_BarsValid.l0 kq x3_1 l0_0 a0_1 = some r) ∧ Aside0 (kq ≤ k) ∧ Aside0 (w'.heap[gb301]? = some (.cells #[(.slice A0_0 l0_0.length c0_0), .bool a0_1] 72 (0, 0))) ∧ Aside0 (Below w.heap.size w w'))
 case atStart => exact ⟨(0), (by first | rfl | (simp; done) | (simp [*]; done)), H', ⟨Nat.le_refl _⟩, ⟨bk BK301⟩, ⟨bw⟩⟩
 case round =>
  clear H'
  try clear p2
  obtain ⟨x3_1, rfl, HA, HK1, BK301, HB⟩ := hrel
  cases gk with
  | zero => exact absurd HA.out (by simp [spec_BarsValid.l0])
  | succ k1 =>
   have H := HA.out
   clear HA
   simp only [spec_BarsValid.l0] at H
   by_cases c3 : x3_1 < (l0_0.length : Int)
   ·rw [if_pos c3] at H
    have c3b0 : decide (x3_1 < (l0_0.length : Int)) = true := decide_eq_true c3
    clear c3
    by_cases c4 : 0 ≤ x3_1
    ·rw [if_pos c4] at H
     have c4b0 : decide (0 ≤ x3_1) = true := decide_eq_true c4
     clear c4
     replace H := Option.bind_eq_some_iff.mp H
     obtain ⟨t303, A50, H⟩ := H
     replace H : (if t303 = true then (if (rd l0_0 x3_1) = 3 then (if a0_1 = true then (spec_BarsValid.l0 k1 (wrap64 (x3_1 + 1)) l0_0 a0_1) else (some false)) else (spec_BarsValid.l0 k1 (wrap64 (x3_1 + 1)) l0_0 a0_1)) else (some false)) = some r := H
     have A5 := Aside0.mk A50
     clear A50
     by_cases c6 : t303 = true
     ·subst c6
      have H1 : (if (rd l0_0 x3_1) = 3 then (if a0_1 = true then (spec_BarsValid.l0 k1 (wrap64 (x3_1 + 1)) l0_0 a0_1) else (some false)) else (spec_BarsValid.l0 k1 (wrap64 (x3_1 + 1)) l0_0 a0_1)) = some r := by rw [if_pos rfl] at H; exact H
      clear H
      have H := H1
      clear H1
      by_cases c7 : (rd l0_0 x3_1) = 3
      ·rw [if_pos c7] at H
       have c7b0 : ((rd l0_0 x3_1) == 3) = true := beq_iff_eq.mpr c7
       have c7b1 : ((rd l0_0 x3_1) != 3) = false := bne_eq_false_iff_eq.mpr c7
       clear c7
       by_cases c8 : a0_1 = true
       ·subst c8
        have H1 : (spec_BarsValid.l0 k1 (wrap64 (x3_1 + 1)) l0_0 true) = some r := by rw [if_pos rfl] at H; exact H
        clear H
        have H := H1
        clear H1
        have H' := Aside0.mk H
        clear H
        have hcz9_0 : wr.cell? ⟨gb301, 0, none⟩ = some (.slice A0_0 l0_0.length c0_0) := (blk_cell BK301.out 0).trans rfl
        have hcz9_1 : wr.cell? ⟨gb301, 1, none⟩ = some (.bool true) := (blk_cell BK301.out 1).trans rfl
        have hfz9_0 := blk_frozen BK301.out 0
        have hfz9_1 := blk_frozen BK301.out 1
        have p302 : 0 ≤ (x3_1 : Int) := of_decide_eq_true (by first | (with_reducible assumption) | assumption)
        have q302 : x3_1 < (l0_0.length : Int) := of_decide_eq_true (by first | (with_reducible assumption) | assumption)
        obtain ⟨ad302, e302, hx302_0⟩ := Kd.at_int HR0_0.out x3_1 p302 q302
        cases e302
        replace hx302_0 := (HB.out.cell (World.block_lt_of_cell? w _ hx302_0)).trans hx302_0
        replace p302 := eq_true p302
        replace q302 := eq_true q302
        go_wp2_with (first | ((with_reducible refine gate_callee (f := 76) rfl ?_); refine goesL_ (some 16) rfl rfl Tryd.func76 (by kernel_rfl) rfl #[.int .i64 (rd l0_0 x3_1), .int .i64 1, .int .i64 3] rfl (by (try simp only [List.map_toArray, List.map_cons, List.map_nil]); first | done | rfl | (simp only [List.length_drop, List.length_take]; rfl)) ?_; (with_reducible refine (spec_l1In.calls (rd l0_0 x3_1) 1 3 true _ A5.out).mono ?_); rintro e w' ⟨rfl, ⟨nd, rfl⟩⟩; refine ⟨_, rfl, ?_⟩; have p304 : 0 ≤ (x3_1 : Int) := of_decide_eq_true (by first | (with_reducible assumption) | assumption); have q304 : x3_1 < (l0_0.length : Int) := of_decide_eq_true (by first | (with_reducible assumption) | assumption); obtain ⟨ad304, e304, hx304_0⟩ := Kd.at_int HR0_0.out x3_1 p304 q304; obtain rfl : ad302 = ad304 := (by injection e304); replace hx304_0 := (HB.out.cell (World.block_lt_of_cell? w _ hx304_0)).trans hx304_0; replace p304 := eq_true p304; replace q304 := eq_true q304))
        go_roundg k1
        case measure => have := HK1.out; omega
        case rel => exact ⟨(wrap64 (x3_1 + 1)), (by first | rfl | (simp; done) | (simp [*]; done)), H', ⟨by have := HK1.out; omega⟩, ⟨bk BK301⟩, ⟨bw⟩⟩
       ·replace c8 := Bool.eq_false_iff.mpr c8
        subst c8
        have H1 : (some false) = some r := by rw [if_neg (show ¬ (false = true) by decide)] at H; exact H
        clear H
        have H := H1
        clear H1
        obtain rfl := Option.some.inj H
        have hcz10_0 : wr.cell? ⟨gb301, 0, none⟩ = some (.slice A0_0 l0_0.length c0_0) := (blk_cell BK301.out 0).trans rfl
        have hcz10_1 : wr.cell? ⟨gb301, 1, none⟩ = some (.bool false) := (blk_cell BK301.out 1).trans rfl
        have hfz10_0 := blk_frozen BK301.out 0
        have hfz10_1 := blk_frozen BK301.out 1
        have p302 : 0 ≤ (x3_1 : Int) := of_decide_eq_true (by first | (with_reducible assumption) | assumption)
        have q302 : x3_1 < (l0_0.length : Int) := of_decide_eq_true (by first | (with_reducible assumption) | assumption)
        obtain ⟨ad302, e302, hx302_0⟩ := Kd.at_int HR0_0.out x3_1 p302 q302
        cases e302
        replace hx302_0 := (HB.out.cell (World.block_lt_of_cell? w _ hx302_0)).trans hx302_0
        replace p302 := eq_true p302
        replace q302 := eq_true q302
        go_wp2_with (first | ((with_reducible refine gate_callee (f := 76) rfl ?_); refine goesL_ (some 16) rfl rfl Tryd.func76 (by kernel_rfl) rfl #[.int .i64 (rd l0_0 x3_1), .int .i64 1, .int .i64 3] rfl (by (try simp only [List.map_toArray, List.map_cons, List.map_nil]); first | done | rfl | (simp only [List.length_drop, List.length_take]; rfl)) ?_; (with_reducible refine (spec_l1In.calls (rd l0_0 x3_1) 1 3 true _ A5.out).mono ?_); rintro e w' ⟨rfl, ⟨nd, rfl⟩⟩; refine ⟨_, rfl, ?_⟩; have p304 : 0 ≤ (x3_1 : Int) := of_decide_eq_true (by first | (with_reducible assumption) | assumption); have q304 : x3_1 < (l0_0.length : Int) := of_decide_eq_true (by first | (with_reducible assumption) | assumption); obtain ⟨ad304, e304, hx304_0⟩ := Kd.at_int HR0_0.out x3_1 p304 q304; obtain rfl : ad302 = ad304 := (by injection e304); replace hx304_0 := (HB.out.cell (World.block_lt_of_cell? w _ hx304_0)).trans hx304_0; replace p304 := eq_true p304; replace q304 := eq_true q304))
        go_ret
        exact ⟨by first | rfl | (simp [errW_none, errW_some] <;> rfl) | (simp [*, errW_none, errW_some] <;> rfl), bw⟩
      ·rw [if_neg c7] at H
       have c7b0 : ((rd l0_0 x3_1) == 3) = false := beq_eq_false_iff_ne.mpr c7
       have c7b1 : ((rd l0_0 x3_1) != 3) = true := bne_iff_ne.mpr c7
       have H' := Aside0.mk H
       clear H
       have hcz11_0 : wr.cell? ⟨gb301, 0, none⟩ = some (.slice A0_0 l0_0.length c0_0) := (blk_cell BK301.out 0).trans rfl
       have hcz11_1 : wr.cell? ⟨gb301, 1, none⟩ = some (.bool a0_1) := (blk_cell BK301.out 1).trans rfl
       have hfz11_0 := blk_frozen BK301.out 0
       have hfz11_1 := blk_frozen BK301.out 1
       have p302 : 0 ≤ (x3_1 : Int) := of_decide_eq_true (by first | (with_reducible assumption) | assumption)
       have q302 : x3_1 < (l0_0.length : Int) := of_decide_eq_true (by first | (with_reducible assumption) | assumption)
       obtain ⟨ad302, e302, hx302_0⟩ := Kd.at_int HR0_0.out x3_1 p302 q302
       cases e302
       replace hx302_0 := (HB.out.cell (World.block_lt_of_cell? w _ hx302_0)).trans hx302_0
       replace p302 := eq_true p302
       replace q302 := eq_true q302
       go_wp2_with (first | ((with_reducible refine gate_callee (f := 76) rfl ?_); refine goesL_ (some 16) rfl rfl Tryd.func76 (by kernel_rfl) rfl #[.int .i64 (rd l0_0 x3_1), .int .i64 1, .int .i64 3] rfl (by (try simp only [List.map_toArray, List.map_cons, List.map_nil]); first | done | rfl | (simp only [List.length_drop, List.length_take]; rfl)) ?_; (with_reducible refine (spec_l1In.calls (rd l0_0 x3_1) 1 3 true _ A5.out).mono ?_); rintro e w' ⟨rfl, ⟨nd, rfl⟩⟩; refine ⟨_, rfl, ?_⟩; have p304 : 0 ≤ (x3_1 : Int) := of_decide_eq_true (by first | (with_reducible assumption) | assumption); have q304 : x3_1 < (l0_0.length : Int) := of_decide_eq_true (by first | (with_reducible assumption) | assumption); obtain ⟨ad304, e304, hx304_0⟩ := Kd.at_int HR0_0.out x3_1 p304 q304; obtain rfl : ad302 = ad304 := (by injection e304); replace hx304_0 := (HB.out.cell (World.block_lt_of_cell? w _ hx304_0)).trans hx304_0; replace p304 := eq_true p304; replace q304 := eq_true q304))
       go_roundg k1
       case measure => have := HK1.out; omega
       case rel => exact ⟨(wrap64 (x3_1 + 1)), (by first | rfl | (simp; done) | (simp [*]; done)), H', ⟨by have := HK1.out; omega⟩, ⟨bk BK301⟩, ⟨bw⟩⟩
     ·replace c6 := Bool.eq_false_iff.mpr c6
      subst c6
      have H1 : (some false) = some r := by rw [if_neg (show ¬ (false = true) by decide)] at H; exact H
      clear H
      have H := H1
      clear H1
      obtain rfl := Option.some.inj H
      have hcz12_0 : wr.cell? ⟨gb301, 0, none⟩ = some (.slice A0_0 l0_0.length c0_0) := (blk_cell BK301.out 0).trans rfl
      have hcz12_1 : wr.cell? ⟨gb301, 1, none⟩ = some (.bool a0_1) := (blk_cell BK301.out 1).trans rfl
      have hfz12_0 := blk_frozen BK301.out 0
      have hfz12_1 := blk_frozen BK301.out 1
      have p302 : 0 ≤ (x3_1 : Int) := of_decide_eq_true (by first | (with_reducible assumption) | assumption)
      have q302 : x3_1 < (l0_0.length : Int) := of_decide_eq_true (by first | (with_reducible assumption) | assumption)
      obtain ⟨ad302, e302, hx302_0⟩ := Kd.at_int HR0_0.out x3_1 p302 q302
      cases e302
      replace hx302_0 := (HB.out.cell (World.block_lt_of_cell? w _ hx302_0)).trans hx302_0
      replace p302 := eq_true p302
      replace q302 := eq_true q302
      go_wp2_with (first | ((with_reducible refine gate_callee (f := 76) rfl ?_); refine goesL_ (some 16) rfl rfl Tryd.func76 (by kernel_rfl) rfl #[.int .i64 (rd l0_0 x3_1), .int .i64 1, .int .i64 3] rfl (by (try simp only [List.map_toArray, List.map_cons, List.map_nil]); first | done | rfl | (simp only [List.length_drop, List.length_take]; rfl)) ?_; (with_reducible refine (spec_l1In.calls (rd l0_0 x3_1) 1 3 false _ A5.out).mono ?_); rintro e w' ⟨rfl, ⟨nd, rfl⟩⟩; refine ⟨_, rfl, ?_⟩))
      go_ret
      exact ⟨by first | rfl | (simp [errW_none, errW_some] <;> rfl) | (simp [*, errW_none, errW_some] <;> rfl), bw⟩
    ·rw [if_neg c4] at H
     exact absurd H (by simp)
   ·rw [if_neg c3] at H
    have c3b0 : decide (x3_1 < (l0_0.length : Int)) = false := decide_eq_false c3
    clear c3
    replace H := Option.bind_eq_some_iff.mp H
    obtain ⟨t305, A130, H⟩ := H
    replace H : (some t305) = some r := H
    have A13 := Aside0.mk A130
    clear A130
    obtain rfl := Option.some.inj H
    have hcz14_0 : wr.cell? ⟨gb301, 0, none⟩ = some (.slice A0_0 l0_0.length c0_0) := (blk_cell BK301.out 0).trans rfl
    have hcz14_1 : wr.cell? ⟨gb301, 1, none⟩ = some (.bool a0_1) := (blk_cell BK301.out 1).trans rfl
    have hfz14_0 := blk_frozen BK301.out 0
    have hfz14_1 := blk_frozen BK301.out 1
    go_wp2_with (first | ((with_reducible refine gate_callee (f := 76) rfl ?_); refine goesL_ (some 34) rfl rfl Tryd.func76 (by kernel_rfl) rfl #[.int .i64 (l0_0.length : Int), .int .i64 1, .int .i64 6] rfl (by (try simp only [List.map_toArray, List.map_cons, List.map_nil]); first | done | rfl | (simp only [List.length_drop, List.length_take]; rfl)) ?_; (with_reducible refine (spec_l1In.calls (l0_0.length : Int) 1 6 t305 _ A13.out).mono ?_); rintro e w' ⟨rfl, ⟨nd, rfl⟩⟩; refine ⟨_, rfl, ?_⟩))
    go_ret
    exact ⟨by first | rfl | (simp [errW_none, errW_some] <;> rfl) | (simp [*, errW_none, errW_some] <;> rfl), bw⟩

/-! ### laws_FnBarsValid: function 10 -/
def laws_FnBarsValid.f (k : Nat) (l0 : List Int) : Option (Bool) := if (l0.length : Int) > 1048576 then (some true) else ((spec_DrawBarsValid.f k l0).bind fun bt306 => ((impl_BarsValid.f k bt306.1 bt306.2).bind fun t311 => ((spec_BarsValid.f k bt306.1 bt306.2).bind fun t312 => (if (t311 != t312) = true then (some false) else (if t311 = true then ((some (([] : List Int) : List Int)).bind fun y313 => (if y313.length + bt306.1.length < 17592186044416 then ((some (y313 ++ bt306.1 : List Int)).bind fun y316 => (if y316.length < 17592186044416 then ((impl_BarsValid.f k bt306.1 true).bind fun t322 => (if t322 = true then ((impl_BarsValid.f k (y316 ++ [0]) true).bind fun t323 => (some (!t323))) else (some false))) else (none))) else (none))) else ((laws_alive.f k).bind fun t324 => (some t324)))))))
theorem laws_FnBarsValid.mono : ∀ a0 k, LeO (laws_FnBarsValid.f k a0) (laws_FnBarsValid.f (k + 1) a0) := by
 intro a0 k
 unfold laws_FnBarsValid.f
 repeat' first
   | (with_reducible exact impl_BarsValid.mono _ _ _)
   | (with_reducible exact laws_alive.mono _)
   | (with_reducible exact spec_BarsValid.mono _ _ _)
   | (with_reducible exact spec_DrawBarsValid.mono _ _)
   | (with_reducible exact LeO.refl _)
   | (with_reducible exact LeO.none _)
   | (with_reducible refine LeO.ite ?_ ?_)
   | (with_reducible refine LeO.bind ?_ (fun _ => ?_))
   | exact impl_BarsValid.mono _ _ _
   | exact laws_alive.mono _
   | exact spec_BarsValid.mono _ _ _
   | exact spec_DrawBarsValid.mono _ _
   | exact LeO.none _
   | refine LeO.ite ?_ ?_
   | refine LeO.bind ?_ (fun _ => ?_)
set_option maxHeartbeats 8000000 in
set_option maxRecDepth 100000 in
theorem laws_FnBarsValid.calls (k : Nat) (A0 : Option Addr) (c0 : Nat) (l0 : List Int) (r : Bool) (w : World) (hr0 : Kd.C (Kd.int .u8) w A0 l0.length l0) (hc0 : l0.length ≤ c0) (h : laws_FnBarsValid.f k l0 = some r) :
  Calls Tryd.prog 10 #[.slice A0 l0.length c0] w fun e w' => e = .returned (.bool r) ∧ Below w.heap.size w w' := by
 have hu72 := Tryd.underlying72
 have HR0 := Aside0.mk hr0
 have HC0 := Aside0.mk hc0
 clear hr0 hc0
 have HB := Aside0.mk (Below.refl w.heap.size w)
 have H : (if (l0.length : Int) > 1048576 then (some true) else ((spec_DrawBarsValid.f k l0).bind fun bt306 => ((impl_BarsValid.f k bt306.1 bt306.2).bind fun t311 => ((spec_BarsValid.f k bt306.1 bt306.2).bind fun t312 => (if (t311 != t312) = true then (some false) else (if t311 = true then ((some (([] : List Int) : List Int)).bind fun y313 => (if y313.length + bt306.1.length < 17592186044416 then ((some (y313 ++ bt306.1 : List Int)).bind fun y316 => (if y316.length < 17592186044416 then ((impl_BarsValid.f k bt306.1 true).bind fun t322 => (if t322 = true then ((impl_BarsValid.f k (y316 ++ [0]) true).bind fun t323 => (some (!t323))) else (some false))) else (none))) else (none))) else ((laws_alive.f k).bind fun t324 => (some t324)))))))) = some r := h
 clear h
 by_cases c2 : (l0.length : Int) > 1048576
 ·rw [if_pos c2] at H
  have c2b0 : decide (1048576 < (l0.length : Int)) = true := decide_eq_true c2
  have c2b1 : decide (1048576 < l0.length) = true := decide_eq_true (by omega)
  clear c2
  obtain rfl := Option.some.inj H
  go_enter Tryd.func10, Tryd.ntmps10
  go_wp2
  go_ret
  exact ⟨by first | rfl | (simp [errW_none, errW_some] <;> rfl) | (simp [*, errW_none, errW_some] <;> rfl), bw⟩
 ·rw [if_neg c2] at H
  have c2b0 : decide (1048576 < (l0.length : Int)) = false := decide_eq_false c2
  have c2b1 : decide (1048576 < l0.length) = false := decide_eq_false (by omega)
  clear c2
  replace H := Option.bind_eq_some_iff.mp H
  obtain ⟨⟨t306, t309⟩, A30, H⟩ := H
  replace H : ((impl_BarsValid.f k t306 t309).bind fun t311 => ((spec_BarsValid.f k t306 t309).bind fun t312 => (if (t311 != t312) = true then (some false) else (if t311 = true then ((some (([] : List Int) : List Int)).bind fun y313 => (if y313.length + t306.length < 17592186044416 then ((some (y313 ++ t306 : List Int)).bind fun y316 => (if y316.length < 17592186044416 then ((impl_BarsValid.f k t306 true).bind fun t322 => (if t322 = true then ((impl_BarsValid.f k (y316 ++ [0]) true).bind fun t323 => (some (!t323))) else (some false))) else (none))) else (none))) else ((laws_alive.f k).bind fun t324 => (some t324)))))) = some r := H
  have A3 := Aside0.mk A30
  clear A30
  replace H := Option.bind_eq_some_iff.mp H
  obtain ⟨t311, A40, H⟩ := H
  replace H : ((spec_BarsValid.f k t306 t309).bind fun t312 => (if (t311 != t312) = true then (some false) else (if t311 = true then ((some (([] : List Int) : List Int)).bind fun y313 => (if y313.length + t306.length < 17592186044416 then ((some (y313 ++ t306 : List Int)).bind fun y316 => (if y316.length < 17592186044416 then ((impl_BarsValid.f k t306 true).bind fun t322 => (if t322 = true then ((impl_BarsValid.f k (y316 ++ [0]) true).bind fun t323 => (some (!t323))) else (some false))) else (none))) else (none))) else ((laws_alive.f k).bind fun t324 => (some t324))))) = some r := H
  have A4 := Aside0.mk A40
  clear A40
  replace H := Option.bind_eq_some_iff.mp H
  obtain ⟨t312, A50, H⟩ := H
  replace H : (if (t311 != t312) = true then (some false) else (if t311 = true then ((some (([] : List Int) : List Int)).bind fun y313 => (if y313.length + t306.length < 17592186044416 then ((some (y313 ++ t306 : List Int)).bind fun y316 => (if y316.length < 17592186044416 then ((impl_BarsValid.f k t306 true).bind fun t322 => (if t322 = true then ((impl_BarsValid.f k (y316 ++ [0]) true).bind fun t323 => (some (!t323))) else (some false))) else (none))) else (none))) else ((laws_alive.f k).bind fun t324 => (some t324)))) = some r := H
  have A5 := Aside0.mk A50
  clear A50
  by_cases c6 : (t311 != t312) = true
  ·rw [if_pos c6] at H
   have c6b0 : (t311 != t312) = true := c6
   (try (have c6b1 : decide (t311 = t312) = false := by simpa using c6))
   (try (have c6b2 : (t311 == t312) = false := by simpa using c6))
   (try (have c6b3 : ¬ (t311 = t312) := by simpa using c6))
   clear c6
   obtain rfl := Option.some.inj H
   go_enter Tryd.func10, Tryd.ntmps10
   have TK0_ := Aside0.mk trivial
   go_wp2_with (first | (clear TK0_; (with_reducible refine gate_callee (f := 51) rfl ?_); refine goesL_ (some 10) rfl rfl Tryd.func51 (by kernel_rfl) rfl #[.slice A0 l0.length c0] rfl (by (try simp only [List.map_toArray, List.map_cons, List.map_nil]); first | done | rfl | (simp only [List.length_drop, List.length_take]; rfl)) ?_; (with_reducible refine (spec_DrawBarsValid.calls k _ _ l0 t306 t309 _ ?side1 ?side2 A3.out).mono ?_); (case side1 => repeat (first | exact HR0.out | (with_reducible refine Kd.C_alloc ?_ _) | (with_reducible refine Kd.C_drewN ?_ _) | (with_reducible refine Kd.C_drew ?_))); (case side2 => exact HC0.out); rintro e w7 ⟨v307, rfl, ho0, hb⟩; refine ⟨_, rfl, ?_⟩; have n0_ := Aside0.mk (Kd.R_lower ho0 (below_size bw)); have n1_ := Aside0.mk (below_step bw hb); clear HB; have HO308 := n0_; have HB := n1_; clear n0_ n1_; (try clear hb); (try clear hb2); (try clear hk); (try clear hi); (try clear ho0); have TK1_ := Aside0.mk trivial) | (clear TK1_; (with_reducible refine gate_dst (N := 3) rfl ?_); refine box_event ?hg (N := 3) ?hd (cs := #[.slice none 0 0, .bool false]) (t := 72) ?hr ?_; (case hd => rfl); (case hg => rfl); (case hr => first | (go_simp; done) | (go_simp; rfl)); intro gb310 hg w8 hbox hb; have n0_ := rB HO308 hb; have n1_ := Aside0.mk (below_step bw hb); have n2_ := Aside0.mk (hbox); have n3_ := Aside0.mk ((by rw [hg]; exact (below_size bw) : w.heap.size ≤ gb310)); have n4_ := Aside0.mk ((by rw [hg]; exact (below_size bw) : w.heap.size ≤ gb310)); clear HO308 HB; have HO308 := n0_; have HB := n1_; have BK310 := n2_; have GW310 := n3_; have GE310 := n4_; clear n0_ n1_ n2_ n3_ n4_; clear hb hbox hg; obtain ⟨Ao9, co9, eo9⟩ := Kd.R_slice HO308.out; subst eo9; have hcz10_0 : w8.cell? ⟨gb310, 0, none⟩ = some (.slice none 0 0) := (blk_cell BK310.out 0).trans rfl; have hcz10_1 : w8.cell? ⟨gb310, 1, none⟩ = some (.bool false) := (blk_cell BK310.out 1).trans rfl; have hfz10_0 := blk_frozen BK310.out 0; have hfz10_1 := blk_frozen BK310.out 1; have TK2_ := Aside0.mk trivial) | (clear TK2_; (with_reducible refine gate_callee (f := 52) rfl ?_); refine goesL_ (some 12) rfl rfl Tryd.func52 (by kernel_rfl) rfl #[.agg #[.slice Ao9 t306.length co9, .bool t309]] rfl (by (try simp only [List.map_toArray, List.map_cons, List.map_nil]); first | done | rfl | (simp only [List.length_drop, List.length_take]; rfl)) ?_; (with_reducible refine (impl_BarsValid.calls k _ _ t306 t309 t311 _ ?side1 ?side2 A4.out).mono ?_); (case side1 => refine (Kd.R_reads' (e := 3) (base := w.heap.size) (ok := fun k_ => True) (n := t306.length) (c := co9) ?_).2.2; exact (by (with_reducible repeat (first | apply Kd.R_alloc | apply Kd.R_drewN | apply Kd.R_drew)); exact (Kd.R_mono (Kd.R_far (p := ⟨gb310, 1, none⟩) (Kd.R_far (p := ⟨gb310, 0, none⟩) (Kd.R_types HO308.out BK310.out (by decide)) (fun _ hk => by first | exact hk.2 | grind) (.slice Ao9 t306.length co9)) (fun _ hk => by first | exact hk.2 | grind) (.bool t309)) (fun _ h_ => h_.1)))); (case side2 => exact (Kd.R_reads' HO308.out).2.1); rintro e w11 ⟨rfl, hb⟩; refine ⟨_, rfl, ?_⟩; have n0_ := Aside0.mk (Kd.R_below (by (with_reducible repeat (first | apply Kd.R_alloc | apply Kd.R_drewN | apply Kd.R_drew)); exact (Kd.R_mono (Kd.R_far (p := ⟨gb310, 1, none⟩) (Kd.R_far (p := ⟨gb310, 0, none⟩) (Kd.R_types HO308.out BK310.out (by decide)) (fun _ hk => by first | exact hk.2 | grind) (.slice Ao9 t306.length co9)) (fun _ hk => by first | exact hk.2 | grind) (.bool t309)) (fun _ h_ => h_.1))) hb); have n1_ := Aside0.mk (blk_below (g := gb310) (o := .cells #[.slice Ao9 t306.length co9, .bool t309] 72 (0, 0)) (by (with_reducible repeat (first | refine blk_drewN ?_ _ | refine blk_drew ?_ | refine blk_alloc ?_ _)); refine blk_put (cs := #[.slice Ao9 t306.length co9, .bool false]) ?_ 1 _ rfl; (with_reducible repeat (first | refine blk_drewN ?_ _ | refine blk_drew ?_ | refine blk_alloc ?_ _)); refine blk_put (cs := #[.slice none 0 0, .bool false]) ?_ 0 _ rfl; (with_reducible repeat (first | refine blk_drewN ?_ _ | refine blk_drew ?_ | refine blk_alloc ?_ _)); exact BK310.out) hb); have n2_ := Aside0.mk (below_step bw hb); clear HO308 BK310 HB; have HO308 := n0_; have BK310 := n1_; have HB := n2_; clear n0_ n1_ n2_; (try clear hb); (try clear hb2); (try clear hk); (try clear hi); have hcz12_0 : w11.cell? ⟨gb310, 0, none⟩ = some (.slice Ao9 t306.length co9) := (blk_cell BK310.out 0).trans rfl; have hcz12_1 : w11.cell? ⟨gb310, 1, none⟩ = some (.bool t309) := (blk_cell BK310.out 1).trans rfl; have hfz12_0 := blk_frozen BK310.out 0; have hfz12_1 := blk_frozen BK310.out 1; have TK3_ := Aside0.mk trivial) | (clear TK3_; (with_reducible refine gate_callee (f := 53) rfl ?_); refine goesL_ (some 15) rfl rfl Tryd.func53 (by kernel_rfl) rfl #[.agg #[.slice Ao9 t306.length co9, .bool t309]] rfl (by (try simp only [List.map_toArray, List.map_cons, List.map_nil]); first | done | rfl | (simp only [List.length_drop, List.length_take]; rfl)) ?_; (with_reducible refine (spec_BarsValid.calls k _ _ t306 t309 t312 _ ?side1 ?side2 A5.out).mono ?_); (case side1 => repeat (first | exact (Kd.R_reads' HO308.out).2.2 | (with_reducible refine Kd.C_alloc ?_ _) | (with_reducible refine Kd.C_drewN ?_ _) | (with_reducible refine Kd.C_drew ?_))); (case side2 => exact (Kd.R_reads' HO308.out).2.1); rintro e w13 ⟨rfl, hb⟩; refine ⟨_, rfl, ?_⟩; have n0_ := rB HO308 hb; have n1_ := bkB BK310 hb; have n2_ := Aside0.mk (below_step bw hb); clear HO308 BK310 HB; have HO308 := n0_; have BK310 := n1_; have HB := n2_; clear n0_ n1_ n2_; (try clear hb); (try clear hb2); (try clear hk); (try clear hi); have TK4_ := Aside0.mk trivial))
   go_ret
   exact ⟨by first | rfl | (simp [errW_none, errW_some] <;> rfl) | (simp [*, errW_none, errW_some] <;> rfl), bw⟩
  ·rw [if_neg c6] at H
   have c6b0 : (t311 != t312) = false := by simpa using c6
   (try (have c6b1 : decide (t311 = t312) = true := by simpa using c6))
   (try (have c6b2 : (t311 == t312) = true := by simpa using c6))
   clear c6
   by_cases c14 : t311 = true
   ·subst c14
    have H1 : ((some (([] : List Int) : List Int)).bind fun y313 => (if y313.length + t306.length < 17592186044416 then ((some (y313 ++ t306 : List Int)).bind fun y316 => (if y316.length < 17592186044416 then ((impl_BarsValid.f k t306 true).bind fun t322 => (if t322 = true then ((impl_BarsValid.f k (y316 ++ [0]) true).bind fun t323 => (some (!t323))) else (some false))) else (none))) else (none))) = some r := by rw [if_pos rfl] at H; exact H
    clear H
    have H := H1
    clear H1
    obtain ⟨y313, hy313⟩ : ∃ y_ : List Int, y_ = (([] : List Int)) := ⟨_, rfl⟩
    replace H : (if y313.length + t306.length < 17592186044416 then ((some (y313 ++ t306 : List Int)).bind fun y316 => (if y316.length < 17592186044416 then ((impl_BarsValid.f k t306 true).bind fun t322 => (if t322 = true then ((impl_BarsValid.f k (y316 ++ [0]) true).bind fun t323 => (some (!t323))) else (some false))) else (none))) else (none)) = some r := by first | (rw [hy313]; with_reducible exact H) | (have H2_ := (Option.bind_some _ _).symm.trans H; rw [hy313]; with_reducible exact H2_) | (have H2_ := (Option.bind_some _ _).symm.trans H; with_reducible exact H2_) | with_reducible exact H | (rw [hy313]; exact H) | exact H
    have Ny313 := Aside0.mk hy313
    clear hy313
    by_cases c15 : y313.length + t306.length < 17592186044416
    ·rw [if_pos c15] at H
     have LMc15 := Aside0.mk c15
     clear c15
     obtain ⟨y316, hy316⟩ : ∃ y_ : List Int, y_ = (y313 ++ t306) := ⟨_, rfl⟩
     replace H : (if y316.length < 17592186044416 then ((impl_BarsValid.f k t306 true).bind fun t322 => (if t322 = true then ((impl_BarsValid.f k (y316 ++ [0]) true).bind fun t323 => (some (!t323))) else (some false))) else (none)) = some r := by first | (rw [hy316]; with_reducible exact H) | (have H2_ := (Option.bind_some _ _).symm.trans H; rw [hy316]; with_reducible exact H2_) | (have H2_ := (Option.bind_some _ _).symm.trans H; with_reducible exact H2_) | with_reducible exact H | (rw [hy316]; exact H) | exact H
     have Ny316 := Aside0.mk hy316
     clear hy316
     by_cases c16 : y316.length < 17592186044416
     ·rw [if_pos c16] at H
      have LMc16 := Aside0.mk c16
      clear c16
      obtain ⟨y319, hy319⟩ : ∃ y_ : List Int, y_ = (y316 ++ [0]) := ⟨_, rfl⟩
      replace H : ((impl_BarsValid.f k t306 true).bind fun t322 => (if t322 = true then ((impl_BarsValid.f k y319 true).bind fun t323 => (some (!t323))) else (some false))) = some r := by first | (rw [hy319]; with_reducible exact H) | (have H2_ := (Option.bind_some _ _).symm.trans H; rw [hy319]; with_reducible exact H2_) | (have H2_ := (Option.bind_some _ _).symm.trans H; with_reducible exact H2_) | with_reducible exact H | (rw [hy319]; exact H) | exact H
      have Ny319 := Aside0.mk hy319
      clear hy319
      replace H := Option.bind_eq_some_iff.mp H
      obtain ⟨t322, A170, H⟩ := H
      replace H : (if t322 = true then ((impl_BarsValid.f k y319 true).bind fun t323 => (some (!t323))) else (some false)) = some r := H
      have A17 := Aside0.mk A170
      clear A170
      by_cases c18 : t322 = true
      ·subst c18
       have H1 : ((impl_BarsValid.f k y319 true).bind fun t323 => (some (!t323))) = some r := by rw [if_pos rfl] at H; exact H
       clear H
       have H := H1
       clear H1
       replace H := Option.bind_eq_some_iff.mp H
       obtain ⟨t323, A190, H⟩ := H
       replace H : (some (!t323)) = some r := H
       have A19 := Aside0.mk A190
       clear A190
       obtain rfl := Option.some.inj H
       go_enter Tryd.func10, Tryd.ntmps10
       have TK0_ := Aside0.mk trivial
       go_wp2_with (first | (clear TK0_; (with_reducible refine gate_callee (f := 51) rfl ?_); refine goesL_ (some 10) rfl rfl Tryd.func51 (by kernel_rfl) rfl #[.slice A0 l0.length c0] rfl (by (try simp only [List.map_toArray, List.map_cons, List.map_nil]); first | done | rfl | (simp only [List.length_drop, List.length_take]; rfl)) ?_; (with_reducible refine (spec_DrawBarsValid.calls k _ _ l0 t306 t309 _ ?side1 ?side2 A3.out).mono ?_); (case side1 => repeat (first | exact HR0.out | (with_reducible refine Kd.C_alloc ?_ _) | (with_reducible refine Kd.C_drewN ?_ _) | (with_reducible refine Kd.C_drew ?_))); (case side2 => exact HC0.out); rintro e w20 ⟨v307, rfl, ho0, hb⟩; refine ⟨_, rfl, ?_⟩; have n0_ := Aside0.mk (Kd.R_lower ho0 (below_size bw)); have n1_ := Aside0.mk (below_step bw hb); clear HB; have HO308 := n0_; have HB := n1_; clear n0_ n1_; (try clear hb); (try clear hb2); (try clear hk); (try clear hi); (try clear ho0); have TK1_ := Aside0.mk trivial) | (clear TK1_; (with_reducible refine gate_dst (N := 3) rfl ?_); refine box_event ?hg (N := 3) ?hd (cs := #[.slice none 0 0, .bool false]) (t := 72) ?hr ?_; (case hd => rfl); (case hg => rfl); (case hr => first | (go_simp; done) | (go_simp; rfl)); intro gb310 hg w21 hbox hb; have n0_ := rB HO308 hb; have n1_ := Aside0.mk (below_step bw hb); have n2_ := Aside0.mk (hbox); have n3_ := Aside0.mk ((by rw [hg]; exact (below_size bw) : w.heap.size ≤ gb310)); have n4_ := Aside0.mk ((by rw [hg]; exact (below_size bw) : w.heap.size ≤ gb310)); clear HO308 HB; have HO308 := n0_; have HB := n1_; have BK310 := n2_; have GW310 := n3_; have GE310 := n4_; clear n0_ n1_ n2_ n3_ n4_; clear hb hbox hg; obtain ⟨Ao22, co22, eo22⟩ := Kd.R_slice HO308.out; subst eo22; have hcz23_0 : w21.cell? ⟨gb310, 0, none⟩ = some (.slice none 0 0) := (blk_cell BK310.out 0).trans rfl; have hcz23_1 : w21.cell? ⟨gb310, 1, none⟩ = some (.bool false) := (blk_cell BK310.out 1).trans rfl; have hfz23_0 := blk_frozen BK310.out 0; have hfz23_1 := blk_frozen BK310.out 1; have TK2_ := Aside0.mk trivial) | (clear TK2_; (with_reducible refine gate_callee (f := 52) rfl ?_); refine goesL_ (some 12) rfl rfl Tryd.func52 (by kernel_rfl) rfl #[.agg #[.slice Ao22 t306.length co22, .bool t309]] rfl (by (try simp only [List.map_toArray, List.map_cons, List.map_nil]); first | done | rfl | (simp only [List.length_drop, List.length_take]; rfl)) ?_; (with_reducible refine (impl_BarsValid.calls k _ _ t306 t309 true _ ?side1 ?side2 A4.out).mono ?_); (case side1 => refine (Kd.R_reads' (e := 3) (base := w.heap.size) (ok := fun k_ => True) (n := t306.length) (c := co22) ?_).2.2; exact (by (with_reducible repeat (first | apply Kd.R_alloc | apply Kd.R_drewN | apply Kd.R_drew)); exact (Kd.R_mono (Kd.R_far (p := ⟨gb310, 1, none⟩) (Kd.R_far (p := ⟨gb310, 0, none⟩) (Kd.R_types HO308.out BK310.out (by decide)) (fun _ hk => by first | exact hk.2 | grind) (.slice Ao22 t306.length co22)) (fun _ hk => by first | exact hk.2 | grind) (.bool t309)) (fun _ h_ => h_.1)))); (case side2 => exact (Kd.R_reads' HO308.out).2.1); rintro e w24 ⟨rfl, hb⟩; refine ⟨_, rfl, ?_⟩; have n0_ := Aside0.mk (Kd.R_below (by (with_reducible repeat (first | apply Kd.R_alloc | apply Kd.R_drewN | apply Kd.R_drew)); exact (Kd.R_mono (Kd.R_far (p := ⟨gb310, 1, none⟩) (Kd.R_far (p := ⟨gb310, 0, none⟩) (Kd.R_types HO308.out BK310.out (by decide)) (fun _ hk => by first | exact hk.2 | grind) (.slice Ao22 t306.length co22)) (fun _ hk => by first | exact hk.2 | grind) (.bool t309)) (fun _ h_ => h_.1))) hb); have n1_ := Aside0.mk (blk_below (g := gb310) (o := .cells #[.slice Ao22 t306.length co22, .bool t309] 72 (0, 0)) (by (with_reducible repeat (first | refine blk_drewN ?_ _ | refine blk_drew ?_ | refine blk_alloc ?_ _)); refine blk_put (cs := #[.slice Ao22 t306.length co22, .bool false]) ?_ 1 _ rfl; (with_reducible repeat (first | refine blk_drewN ?_ _ | refine blk_drew ?_ | refine blk_alloc ?_ _)); refine blk_put (cs := #[.slice none 0 0, .bool false]) ?_ 0 _ rfl; (with_reducible repeat (first | refine blk_drewN ?_ _ | refine blk_drew ?_ | refine blk_alloc ?_ _)); exact BK310.out) hb); have n2_ := Aside0.mk (below_step bw hb); clear HO308 BK310 HB; have HO308 := n0_; have BK310 := n1_; have HB := n2_; clear n0_ n1_ n2_; (try clear hb); (try clear hb2); (try clear hk); (try clear hi); have hcz25_0 : w24.cell? ⟨gb310, 0, none⟩ = some (.slice Ao22 t306.length co22) := (blk_cell BK310.out 0).trans rfl; have hcz25_1 : w24.cell? ⟨gb310, 1, none⟩ = some (.bool t309) := (blk_cell BK310.out 1).trans rfl; have hfz25_0 := blk_frozen BK310.out 0; have hfz25_1 := blk_frozen BK310.out 1; have TK3_ := Aside0.mk trivial) | (clear TK3_; (with_reducible refine gate_callee (f := 53) rfl ?_); refine goesL_ (some 15) rfl rfl Tryd.func53 (by kernel_rfl) rfl #[.agg #[.slice Ao22 t306.length co22, .bool t309]] rfl (by (try simp only [List.map_toArray, List.map_cons, List.map_nil]); first | done | rfl | (simp only [List.length_drop, List.length_take]; rfl)) ?_; (with_reducible refine (spec_BarsValid.calls k _ _ t306 t309 t312 _ ?side1 ?side2 A5.out).mono ?_); (case side1 => repeat (first | exact (Kd.R_reads' HO308.out).2.2 | (with_reducible refine Kd.C_alloc ?_ _) | (with_reducible refine Kd.C_drewN ?_ _) | (with_reducible refine Kd.C_drew ?_))); (case side2 => exact (Kd.R_reads' HO308.out).2.1); rintro e w26 ⟨rfl, hb⟩; refine ⟨_, rfl, ?_⟩; have n0_ := rB HO308 hb; have n1_ := bkB BK310 hb; have n2_ := Aside0.mk (below_step bw hb); clear HO308 BK310 HB; have HO308 := n0_; have BK310 := n1_; have HB := n2_; clear n0_ n1_ n2_; (try clear hb); (try clear hb2); (try clear hk); (try clear hi); have TK4_ := Aside0.mk trivial) | (clear TK4_; (with_reducible refine gate_dst (N := 20) rfl ?_); refine Kd.R_lit (Kd.int .i64) _ 3 ?hg (N := 20) ?hd (xs := ([] : List Int)) (inner := []) (ok := fun _ => True) (okp := fun _ => True) ?hr ?hp (fun _ hk => by first | exact hk | grind) trivial (Below.refl _ _) (Nat.le_refl _) (by simp) ?_; (case hd => rfl); (case hg => rfl); (case hr => first | (go_simp; done) | (go_simp; rfl)); (case hp => exact (Reps.none _ _)); intro v314 w27 ho28 hb hg_ hnew_; clear hg_ hnew_; (first | rw [← Ny313.out] at ho28 | (simp only [Int.reduceToNat] at ho28; rw [← Ny313.out] at ho28)); have n0_ := Aside0.mk (Kd.R_elder' (rk HO308) (Kd.R_base ho28) hb); have n1_ := Aside0.mk (Kd.R_lower (Kd.R_new' ho28 (Kd.R_lt (rk HO308))) (below_size bw)); have n2_ := bkB BK310 hb; have n3_ := Aside0.mk (below_step bw hb); clear HO308 BK310 HB; have HO308 := n0_; have HO315 := n1_; have BK310 := n2_; have HB := n3_; clear n0_ n1_ n2_ n3_; clear hb ho28; have hcz29_0 : w27.cell? ⟨gb310, 0, none⟩ = some (.slice Ao22 t306.length co22) := (blk_cell BK310.out 0).trans rfl; have hcz29_1 : w27.cell? ⟨gb310, 1, none⟩ = some (.bool t309) := (blk_cell BK310.out 1).trans rfl; have hfz29_0 := blk_frozen BK310.out 0; have hfz29_1 := blk_frozen BK310.out 1; have TK5_ := Aside0.mk trivial) | (clear TK5_; (with_reducible refine gate_builtin (b := .append) (xs := #[.tmp 20, .tmp 22]) rfl ?_); at_builtin; refine Kd.R_append_rows (Kd.int .i64) (w0 := w) w.heap.size rfl (.tmp 20) (.tmp 22) 30 3 (.int .i64 0) 8 rfl Tryd.underlying30 info3 rfl (by decide) (by omega) v314 y313 t306 _ _ _ (fun k_ => some k_ ≠ (.slice Ao22 t306.length co22 : Value).ownBlock) (fun _ => False) rfl rfl ?aO ?aR (fun _ _ h => h) (fun _ h => h.elim) ?aF ?aB ?aS ?aL ?_; (case aR => repeat (first | exact (Kd.R_reads' HO308.out).2.2 | (with_reducible refine Kd.C_alloc ?_ _) | (with_reducible refine Kd.C_drewN ?_ _) | (with_reducible refine Kd.C_drew ?_))); (case aB => exact bw); (case aF => exact (fun k_ hk => Kd.fresh' (Kd.R_lt (rk HO308)) k_ hk)); (case aO => exact (by (with_reducible repeat (first | apply Kd.R_alloc | apply Kd.R_drewN | apply Kd.R_drew)); exact Kd.R_mono HO315.out (fun _ hk => by first | exact hk.2 | grind))); (case aS => exact (below_size bw)); (case aL => have := LMc15.out; omega); intro v317 w30 ho hb hg hat; rw [← Ny316.out] at ho; have n0_ := Aside0.mk (Kd.R_after (ok := (fun _ => True)) (rk HO308) hg hat); have n1_ := Aside0.mk (blk_grown (g := gb310) (o := .cells #[.slice Ao22 t306.length co22, .bool t309] 72 (0, 0)) (bk BK310) hg (Kd.R_ne HO315.out BK310.out (by decide))); have n2_ := Aside0.mk (hb); have n3_ := Aside0.mk (ho); clear HO308 BK310 HB HO315; have HO308 := n0_; have BK310 := n1_; have HB := n2_; have HO318 := n3_; clear n0_ n1_ n2_ n3_; clear ho hb hg hat; have TK6_ := Aside0.mk trivial) | (clear TK6_; (with_reducible refine gate_builtin (b := .append) (xs := #[.tmp 23, .tmp 24]) rfl ?_); at_builtin; refine Kd.R_append (Kd.int .i64) (w0 := w) w.heap.size rfl (.tmp 23) (.tmp 24) 30 3 (.int .i64 0) 8 rfl Tryd.underlying30 info3 rfl (by decide) (by omega) v317 y316 0 [.int .i64 0] (fun k_ => some k_ ≠ (.slice Ao22 t306.length co22 : Value).ownBlock) (fun _ => False) rfl rfl ?aP (fun _ hk => by first | exact hk.elim | grind) ?aF ?aO ?aB ?aS ?aL ?_; (case aP => exact rfl); (case aB => exact bw); (case aF => exact (fun k_ hk => Kd.fresh' (Kd.R_lt (rk HO308)) k_ hk)); (case aO => exact (rk HO318)); (case aS => exact (below_size bw)); (case aL => have := LMc16.out; omega); intro v320 w31 ho hb hg hat; rw [← Ny319.out] at ho; have n0_ := Aside0.mk (Kd.R_after (ok := (fun _ => True)) (rk HO308) hg hat); have n1_ := Aside0.mk (blk_grown (g := gb310) (o := .cells #[.slice Ao22 t306.length co22, .bool t309] 72 (0, 0)) (bk BK310) hg (Kd.R_ne HO318.out BK310.out (by decide))); have n2_ := Aside0.mk (hb); have n3_ := Aside0.mk (ho); clear HO308 BK310 HB HO318; have HO308 := n0_; have BK310 := n1_; have HB := n2_; have HO321 := n3_; clear n0_ n1_ n2_ n3_; clear ho hb hg hat; have hcz32_0 : w31.cell? ⟨gb310, 0, none⟩ = some (.slice Ao22 t306.length co22) := (blk_cell BK310.out 0).trans rfl; have hcz32_1 : w31.cell? ⟨gb310, 1, none⟩ = some (.bool t309) := (blk_cell BK310.out 1).trans rfl; have hfz32_0 := blk_frozen BK310.out 0; have hfz32_1 := blk_frozen BK310.out 1; have TK7_ := Aside0.mk trivial) | (clear TK7_; (with_reducible refine gate_callee (f := 52) rfl ?_); refine goesL_ (some 29) rfl rfl Tryd.func52 (by kernel_rfl) rfl #[.agg #[.slice Ao22 t306.length co22, .bool true]] rfl (by (try simp only [List.map_toArray, List.map_cons, List.map_nil]); first | done | rfl | (simp only [List.length_drop, List.length_take]; rfl)) ?_; (with_reducible refine (impl_BarsValid.calls k _ _ t306 true true _ ?side1 ?side2 A17.out).mono ?_); (case side1 => repeat (first | exact (Kd.R_reads' HO308.out).2.2 | (with_reducible refine Kd.C_alloc ?_ _) | (with_reducible refine Kd.C_drewN ?_ _) | (with_reducible refine Kd.C_drew ?_))); (case side2 => exact (Kd.R_reads' HO308.out).2.1); rintro e w33 ⟨rfl, hb⟩; refine ⟨_, rfl, ?_⟩; have n0_ := rB HO308 hb; have n1_ := rB HO321 hb; have n2_ := bkB BK310 hb; have n3_ := Aside0.mk (below_step bw hb); clear HO308 HO321 BK310 HB; have HO308 := n0_; have HO321 := n1_; have BK310 := n2_; have HB := n3_; clear n0_ n1_ n2_ n3_; (try clear hb); (try clear hb2); (try clear hk); (try clear hi); obtain ⟨Ao34, co34, eo34⟩ := Kd.R_slice HO321.out; subst eo34; have TK8_ := Aside0.mk trivial) | (clear TK8_; go_at_call 52; (with_reducible refine (impl_BarsValid.calls k _ _ y319 true t323 _ ?side1 ?side2 A19.out).mono ?_); (case side1 => repeat (first | exact (Kd.R_reads' HO321.out).2.2 | (with_reducible refine Kd.C_alloc ?_ _) | (with_reducible refine Kd.C_drewN ?_ _) | (with_reducible refine Kd.C_drew ?_))); (case side2 => exact (Kd.R_reads' HO321.out).2.1); rintro e w35 ⟨rfl, hb⟩; have n0_ := rB HO308 hb; have n1_ := rB HO321 hb; have n2_ := bkB BK310 hb; have n3_ := Aside0.mk (below_step bw hb); clear HO308 HO321 BK310 HB; have HO308 := n0_; have HO321 := n1_; have BK310 := n2_; have HB := n3_; clear n0_ n1_ n2_ n3_; (try clear hb); (try clear hb2); (try clear hk); (try clear hi); have TK9_ := Aside0.mk trivial))
       go_ret
       exact ⟨by first | rfl | (simp [errW_none, errW_some] <;> rfl) | (simp [*, errW_none, errW_some] <;> rfl), bw⟩
      ·replace c18 := Bool.eq_false_iff.mpr c18
       subst c18
       have H1 : (some false) = some r := by rw [if_neg (show ¬ (false = true) by decide)] at H; exact H
       clear H
       have H := H1
       clear H1
       obtain rfl := Option.some.inj H
       go_enter Tryd.func10, Tryd.ntmps10
       have TK0_ := Aside0.mk trivial
       go_wp2_with (first | (clear TK0_; (with_reducible refine gate_callee (f := 51) rfl ?_); refine goesL_ (some 10) rfl rfl Tryd.func51 (by kernel_rfl) rfl #[.slice A0 l0.length c0] rfl (by (try simp only [List.map_toArray, List.map_cons, List.map_nil]); first | done | rfl | (simp only [List.length_drop, List.length_take]; rfl)) ?_; (with_reducible refine (spec_DrawBarsValid.calls k _ _ l0 t306 t309 _ ?side1 ?side2 A3.out).mono ?_); (case side1 => repeat (first | exact HR0.out | (with_reducible refine Kd.C_alloc ?_ _) | (with_reducible refine Kd.C_drewN ?_ _) | (with_reducible refine Kd.C_drew ?_))); (case side2 => exact HC0.out); rintro e w36 ⟨v307, rfl, ho0, hb⟩; refine ⟨_, rfl, ?_⟩; have n0_ := Aside0.mk (Kd.R_lower ho0 (below_size bw)); have n1_ := Aside0.mk (below_step bw hb); clear HB; have HO308 := n0_; have HB := n1_; clear n0_ n1_; (try clear hb); (try clear hb2); (try clear hk); (try clear hi); (try clear ho0); have TK1_ := Aside0.mk trivial) | (clear TK1_; (with_reducible refine gate_dst (N := 3) rfl ?_); refine box_event ?hg (N := 3) ?hd (cs := #[.slice none 0 0, .bool false]) (t := 72) ?hr ?_; (case hd => rfl); (case hg => rfl); (case hr => first | (go_simp; done) | (go_simp; rfl)); intro gb310 hg w37 hbox hb; have n0_ := rB HO308 hb; have n1_ := Aside0.mk (below_step bw hb); have n2_ := Aside0.mk (hbox); have n3_ := Aside0.mk ((by rw [hg]; exact (below_size bw) : w.heap.size ≤ gb310)); have n4_ := Aside0.mk ((by rw [hg]; exact (below_size bw) : w.heap.size ≤ gb310)); clear HO308 HB; have HO308 := n0_; have HB := n1_; have BK310 := n2_; have GW310 := n3_; have GE310 := n4_; clear n0_ n1_ n2_ n3_ n4_; clear hb hbox hg; obtain ⟨Ao38, co38, eo38⟩ := Kd.R_slice HO308.out; subst eo38; have hcz39_0 : w37.cell? ⟨gb310, 0, none⟩ = some (.slice none 0 0) := (blk_cell BK310.out 0).trans rfl; have hcz39_1 : w37.cell? ⟨gb310, 1, none⟩ = some (.bool false) := (blk_cell BK310.out 1).trans rfl; have hfz39_0 := blk_frozen BK310.out 0; have hfz39_1 := blk_frozen BK310.out 1; have TK2_ := Aside0.mk trivial) | (clear TK2_; (with_reducible refine gate_callee (f := 52) rfl ?_); refine goesL_ (some 12) rfl rfl Tryd.func52 (by kernel_rfl) rfl #[.agg #[.slice Ao38 t306.length co38, .bool t309]] rfl (by (try simp only [List.map_toArray, List.map_cons, List.map_nil]); first | done | rfl | (simp only [List.length_drop, List.length_take]; rfl)) ?_; (with_reducible refine (impl_BarsValid.calls k _ _ t306 t309 true _ ?side1 ?side2 A4.out).mono ?_); (case side1 => refine (Kd.R_reads' (e := 3) (base := w.heap.size) (ok := fun k_ => True) (n := t306.length) (c := co38) ?_).2.2; exact (by (with_reducible repeat (first | apply Kd.R_alloc | apply Kd.R_drewN | apply Kd.R_drew)); exact (Kd.R_mono (Kd.R_far (p := ⟨gb310, 1, none⟩) (Kd.R_far (p := ⟨gb310, 0, none⟩) (Kd.R_types HO308.out BK310.out (by decide)) (fun _ hk => by first | exact hk.2 | grind) (.slice Ao38 t306.length co38)) (fun _ hk => by first | exact hk.2 | grind) (.bool t309)) (fun _ h_ => h_.1)))); (case side2 => exact (Kd.R_reads' HO308.out).2.1); rintro e w40 ⟨rfl, hb⟩; refine ⟨_, rfl, ?_⟩; have n0_ := Aside0.mk (Kd.R_below (by (with_reducible repeat (first | apply Kd.R_alloc | apply Kd.R_drewN | apply Kd.R_drew)); exact (Kd.R_mono (Kd.R_far (p := ⟨gb310, 1, none⟩) (Kd.R_far (p := ⟨gb310, 0, none⟩) (Kd.R_types HO308.out BK310.out (by decide)) (fun _ hk => by first | exact hk.2 | grind) (.slice Ao38 t306.length co38)) (fun _ hk => by first | exact hk.2 | grind) (.bool t309)) (fun _ h_ => h_.1))) hb); have n1_ := Aside0.mk (blk_below (g := gb310) (o := .cells #[.slice Ao38 t306.length co38, .bool t309] 72 (0, 0)) (by (with_reducible repeat (first | refine blk_drewN ?_ _ | refine blk_drew ?_ | refine blk_alloc ?_ _)); refine blk_put (cs := #[.slice Ao38 t306.length co38, .bool false]) ?_ 1 _ rfl; (with_reducible repeat (first | refine blk_drewN ?_ _ | refine blk_drew ?_ | refine blk_alloc ?_ _)); refine blk_put (cs := #[.slice none 0 0, .bool false]) ?_ 0 _ rfl; (with_reducible repeat (first | refine blk_drewN ?_ _ | refine blk_drew ?_ | refine blk_alloc ?_ _)); exact BK310.out) hb); have n2_ := Aside0.mk (below_step bw hb); clear HO308 BK310 HB; have HO308 := n0_; have BK310 := n1_; have HB := n2_; clear n0_ n1_ n2_; (try clear hb); (try clear hb2); (try clear hk); (try clear hi); have hcz41_0 : w40.cell? ⟨gb310, 0, none⟩ = some (.slice Ao38 t306.length co38) := (blk_cell BK310.out 0).trans rfl; have hcz41_1 : w40.cell? ⟨gb310, 1, none⟩ = some (.bool t309) := (blk_cell BK310.out 1).trans rfl; have hfz41_0 := blk_frozen BK310.out 0; have hfz41_1 := blk_frozen BK310.out 1; have TK3_ := Aside0.mk trivial) | (clear TK3_; (with_reducible refine gate_callee (f := 53) rfl ?_); refine goesL_ (some 15) rfl rfl Tryd.func53 (by kernel_rfl) rfl #[.agg #[.slice Ao38 t306.length co38, .bool t309]] rfl (by (try simp only [List.map_toArray, List.map_cons, List.map_nil]); first | done | rfl | (simp only [List.length_drop, List.length_take]; rfl)) ?_; (with_reducible refine (spec_BarsValid.calls k _ _ t306 t309 t312 _ ?side1 ?side2 A5.out).mono ?_); (case side1 => repeat (first | exact (Kd.R_reads' HO308.out).2.2 | (with_reducible refine Kd.C_alloc ?_ _) | (with_reducible refine Kd.C_drewN ?_ _) | (with_reducible refine Kd.C_drew ?_))); (case side2 => exact (Kd.R_reads' HO308.out).2.1); rintro e w42 ⟨rfl, hb⟩; refine ⟨_, rfl, ?_⟩; have n0_ := rB HO308 hb; have n1_ := bkB BK310 hb; have n2_ := Aside0.mk (below_step bw hb); clear HO308 BK310 HB; have HO308 := n0_; have BK310 := n1_; have HB := n2_; clear n0_ n1_ n2_; (try clear hb); (try clear hb2); (try clear hk); (try clear hi); have TK4_ := Aside0.mk trivial) | (clear TK4_; (with_reducible refine gate_dst (N := 20) rfl ?_); refine Kd.R_lit (Kd.int .i64) _ 3 ?hg (N := 20) ?hd (xs := ([] : List Int)) (inner := []) (ok := fun _ => True) (okp := fun _ => True) ?hr ?hp (fun _ hk => by first | exact hk | grind) trivial (Below.refl _ _) (Nat.le_refl _) (by simp) ?_; (case hd => rfl); (case hg => rfl); (case hr => first | (go_simp; done) | (go_simp; rfl)); (case hp => exact (Reps.none _ _)); intro v314 w43 ho44 hb hg_ hnew_; clear hg_ hnew_; (first | rw [← Ny313.out] at ho44 | (simp only [Int.reduceToNat] at ho44; rw [← Ny313.out] at ho44)); have n0_ := Aside0.mk (Kd.R_elder' (rk HO308) (Kd.R_base ho44) hb); have n1_ := Aside0.mk (Kd.R_lower (Kd.R_new' ho44 (Kd.R_lt (rk HO308))) (below_size bw)); have n2_ := bkB BK310 hb; have n3_ := Aside0.mk (below_step bw hb); clear HO308 BK310 HB; have HO308 := n0_; have HO315 := n1_; have BK310 := n2_; have HB := n3_; clear n0_ n1_ n2_ n3_; clear hb ho44; have hcz45_0 : w43.cell? ⟨gb310, 0, none⟩ = some (.slice Ao38 t306.length co38) := (blk_cell BK310.out 0).trans rfl; have hcz45_1 : w43.cell? ⟨gb310, 1, none⟩ = some (.bool t309) := (blk_cell BK310.out 1).trans rfl; have hfz45_0 := blk_frozen BK310.out 0; have hfz45_1 := blk_frozen BK310.out 1; have TK5_ := Aside0.mk trivial) | (clear TK5_; (with_reducible refine gate_builtin (b := .append) (xs := #[.tmp 20, .tmp 22]) rfl ?_); at_builtin; refine Kd.R_append_rows (Kd.int .i64) (w0 := w) w.heap.size rfl (.tmp 20) (.tmp 22) 30 3 (.int .i64 0) 8 rfl Tryd.underlying30 info3 rfl (by decide) (by omega) v314 y313 t306 _ _ _ (fun k_ => some k_ ≠ (.slice Ao38 t306.length co38 : Value).ownBlock) (fun _ => False) rfl rfl ?aO ?aR (fun _ _ h => h) (fun _ h => h.elim) ?aF ?aB ?aS ?aL ?_; (case aR => repeat (first | exact (Kd.R_reads' HO308.out).2.2 | (with_reducible refine Kd.C_alloc ?_ _) | (with_reducible refine Kd.C_drewN ?_ _) | (with_reducible refine Kd.C_drew ?_))); (case aB => exact bw); (case aF => exact (fun k_ hk => Kd.fresh' (Kd.R_lt (rk HO308)) k_ hk)); (case aO => exact (by (with_reducible repeat (first | apply Kd.R_alloc | apply Kd.R_drewN | apply Kd.R_drew)); exact Kd.R_mono HO315.out (fun _ hk => by first | exact hk.2 | grind))); (case aS => exact (below_size bw)); (case aL => have := LMc15.out; omega); intro v317 w46 ho hb hg hat; rw [← Ny316.out] at ho; have n0_ := Aside0.mk (Kd.R_after (ok := (fun _ => True)) (rk HO308) hg hat); have n1_ := Aside0.mk (blk_grown (g := gb310) (o := .cells #[.slice Ao38 t306.length co38, .bool t309] 72 (0, 0)) (bk BK310) hg (Kd.R_ne HO315.out BK310.out (by decide))); have n2_ := Aside0.mk (hb); have n3_ := Aside0.mk (ho); clear HO308 BK310 HB HO315; have HO308 := n0_; have BK310 := n1_; have HB := n2_; have HO318 := n3_; clear n0_ n1_ n2_ n3_; clear ho hb hg hat; have TK6_ := Aside0.mk trivial) | (clear TK6_; (with_reducible refine gate_builtin (b := .append) (xs := #[.tmp 23, .tmp 24]) rfl ?_); at_builtin; refine Kd.R_append (Kd.int .i64) (w0 := w) w.heap.size rfl (.tmp 23) (.tmp 24) 30 3 (.int .i64 0) 8 rfl Tryd.underlying30 info3 rfl (by decide) (by omega) v317 y316 0 [.int .i64 0] (fun k_ => some k_ ≠ (.slice Ao38 t306.length co38 : Value).ownBlock) (fun _ => False) rfl rfl ?aP (fun _ hk => by first | exact hk.elim | grind) ?aF ?aO ?aB ?aS ?aL ?_; (case aP => exact rfl); (case aB => exact bw); (case aF => exact (fun k_ hk => Kd.fresh' (Kd.R_lt (rk HO308)) k_ hk)); (case aO => exact (rk HO318)); (case aS => exact (below_size bw)); (case aL => have := LMc16.out; omega); intro v320 w47 ho hb hg hat; rw [← Ny319.out] at ho; have n0_ := Aside0.mk (Kd.R_after (ok := (fun _ => True)) (rk HO308) hg hat); have n1_ := Aside0.mk (blk_grown (g := gb310) (o := .cells #[.slice Ao38 t306.length co38, .bool t309] 72 (0, 0)) (bk BK310) hg (Kd.R_ne HO318.out BK310.out (by decide))); have n2_ := Aside0.mk (hb); have n3_ := Aside0.mk (ho); clear HO308 BK310 HB HO318; have HO308 := n0_; have BK310 := n1_; have HB := n2_; have HO321 := n3_; clear n0_ n1_ n2_ n3_; clear ho hb hg hat; have hcz48_0 : w47.cell? ⟨gb310, 0, none⟩ = some (.slice Ao38 t306.length co38) := (blk_cell BK310.out 0).trans rfl; have hcz48_1 : w47.cell? ⟨gb310, 1, none⟩ = some (.bool t309) := (blk_cell BK310.out 1).trans rfl; have hfz48_0 := blk_frozen BK310.out 0; have hfz48_1 := blk_frozen BK310.out 1; have TK7_ := Aside0.mk trivial) | (clear TK7_; (with_reducible refine gate_callee (f := 52) rfl ?_); refine goesL_ (some 29) rfl rfl Tryd.func52 (by kernel_rfl) rfl #[.agg #[.slice Ao38 t306.length co38, .bool true]] rfl (by (try simp only [List.map_toArray, List.map_cons, List.map_nil]); first | done | rfl | (simp only [List.length_drop, List.length_take]; rfl)) ?_; (with_reducible refine (impl_BarsValid.calls k _ _ t306 true false _ ?side1 ?side2 A17.out).mono ?_); (case side1 => repeat (first | exact (Kd.R_reads' HO308.out).2.2 | (with_reducible refine Kd.C_alloc ?_ _) | (with_reducible refine Kd.C_drewN ?_ _) | (with_reducible refine Kd.C_drew ?_))); (case side2 => exact (Kd.R_reads' HO308.out).2.1); rintro e w49 ⟨rfl, hb⟩; refine ⟨_, rfl, ?_⟩; have n0_ := rB HO308 hb; have n1_ := rB HO321 hb; have n2_ := bkB BK310 hb; have n3_ := Aside0.mk (below_step bw hb); clear HO308 HO321 BK310 HB; have HO308 := n0_; have HO321 := n1_; have BK310 := n2_; have HB := n3_; clear n0_ n1_ n2_ n3_; (try clear hb); (try clear hb2); (try clear hk); (try clear hi); have TK8_ := Aside0.mk trivial))
       go_ret
       exact ⟨by first | rfl | (simp [errW_none, errW_some] <;> rfl) | (simp [*, errW_none, errW_some] <;> rfl), bw⟩
     ·rw [if_neg c16] at H
      exact absurd H (by simp)
    ·rw [if_neg c15] at H
     exact absurd H (by simp)
   ·replace c14 := Bool.eq_false_iff.mpr c14
    subst c14
    have H1 : ((laws_alive.f k).bind fun t324 => (some t324)) = some r := by rw [if_neg (show ¬ (false = true) by decide)] at H; exact H
    clear H
    have H := H1
    clear H1
    replace H := Option.bind_eq_some_iff.mp H
    obtain ⟨t324, A500, H⟩ := H
    replace H : (some t324) = some r := H
    have A50 := Aside0.mk A500
    clear A500
    obtain rfl := Option.some.inj H
    go_enter Tryd.func10, Tryd.ntmps10
    have TK0_ := Aside0.mk trivial
    go_wp2_with (first | (clear TK0_; (with_reducible refine gate_callee (f := 51) rfl ?_); refine goesL_ (some 10) rfl rfl Tryd.func51 (by kernel_rfl) rfl #[.slice A0 l0.length c0] rfl (by (try simp only [List.map_toArray, List.map_cons, List.map_nil]); first | done | rfl | (simp only [List.length_drop, List.length_take]; rfl)) ?_; (with_reducible refine (spec_DrawBarsValid.calls k _ _ l0 t306 t309 _ ?side1 ?side2 A3.out).mono ?_); (case side1 => repeat (first | exact HR0.out | (with_reducible refine Kd.C_alloc ?_ _) | (with_reducible refine Kd.C_drewN ?_ _) | (with_reducible refine Kd.C_drew ?_))); (case side2 => exact HC0.out); rintro e w51 ⟨v307, rfl, ho0, hb⟩; refine ⟨_, rfl, ?_⟩; have n0_ := Aside0.mk (Kd.R_lower ho0 (below_size bw)); have n1_ := Aside0.mk (below_step bw hb); clear HB; have HO308 := n0_; have HB := n1_; clear n0_ n1_; (try clear hb); (try clear hb2); (try clear hk); (try clear hi); (try clear ho0); have TK1_ := Aside0.mk trivial) | (clear TK1_; (with_reducible refine gate_dst (N := 3) rfl ?_); refine box_event ?hg (N := 3) ?hd (cs := #[.slice none 0 0, .bool false]) (t := 72) ?hr ?_; (case hd => rfl); (case hg => rfl); (case hr => first | (go_simp; done) | (go_simp; rfl)); intro gb310 hg w52 hbox hb; have n0_ := rB HO308 hb; have n1_ := Aside0.mk (below_step bw hb); have n2_ := Aside0.mk (hbox); have n3_ := Aside0.mk ((by rw [hg]; exact (below_size bw) : w.heap.size ≤ gb310)); have n4_ := Aside0.mk ((by rw [hg]; exact (below_size bw) : w.heap.size ≤ gb310)); clear HO308 HB; have HO308 := n0_; have HB := n1_; have BK310 := n2_; have GW310 := n3_; have GE310 := n4_; clear n0_ n1_ n2_ n3_ n4_; clear hb hbox hg; obtain ⟨Ao53, co53, eo53⟩ := Kd.R_slice HO308.out; subst eo53; have hcz54_0 : w52.cell? ⟨gb310, 0, none⟩ = some (.slice none 0 0) := (blk_cell BK310.out 0).trans rfl; have hcz54_1 : w52.cell? ⟨gb310, 1, none⟩ = some (.bool false) := (blk_cell BK310.out 1).trans rfl; have hfz54_0 := blk_frozen BK310.out 0; have hfz54_1 := blk_frozen BK310.out 1; have TK2_ := Aside0.mk trivial) | (clear TK2_; (with_reducible refine gate_callee (f := 52) rfl ?_); refine goesL_ (some 12) rfl rfl Tryd.func52 (by kernel_rfl) rfl #[.agg #[.slice Ao53 t306.length co53, .bool t309]] rfl (by (try simp only [List.map_toArray, List.map_cons, List.map_nil]); first | done | rfl | (simp only [List.length_drop, List.length_take]; rfl)) ?_; (with_reducible refine (impl_BarsValid.calls k _ _ t306 t309 false _ ?side1 ?side2 A4.out).mono ?_); (case side1 => refine (Kd.R_reads' (e := 3) (base := w.heap.size) (ok := fun k_ => True) (n := t306.length) (c := co53) ?_).2.2; exact (by (with_reducible repeat (first | apply Kd.R_alloc | apply Kd.R_drewN | apply Kd.R_drew)); exact (Kd.R_mono (Kd.R_far (p := ⟨gb310, 1, none⟩) (Kd.R_far (p := ⟨gb310, 0, none⟩) (Kd.R_types HO308.out BK310.out (by decide)) (fun _ hk => by first | exact hk.2 | grind) (.slice Ao53 t306.length co53)) (fun _ hk => by first | exact hk.2 | grind) (.bool t309)) (fun _ h_ => h_.1)))); (case side2 => exact (Kd.R_reads' HO308.out).2.1); rintro e w55 ⟨rfl, hb⟩; refine ⟨_, rfl, ?_⟩; have n0_ := Aside0.mk (Kd.R_below (by (with_reducible repeat (first | apply Kd.R_alloc | apply Kd.R_drewN | apply Kd.R_drew)); exact (Kd.R_mono (Kd.R_far (p := ⟨gb310, 1, none⟩) (Kd.R_far (p := ⟨gb310, 0, none⟩) (Kd.R_types HO308.out BK310.out (by decide)) (fun _ hk => by first | exact hk.2 | grind) (.slice Ao53 t306.length co53)) (fun _ hk => by first | exact hk.2 | grind) (.bool t309)) (fun _ h_ => h_.1))) hb); have n1_ := Aside0.mk (blk_below (g := gb310) (o := .cells #[.slice Ao53 t306.length co53, .bool t309] 72 (0, 0)) (by (with_reducible repeat (first | refine blk_drewN ?_ _ | refine blk_drew ?_ | refine blk_alloc ?_ _)); refine blk_put (cs := #[.slice Ao53 t306.length co53, .bool false]) ?_ 1 _ rfl; (with_reducible repeat (first | refine blk_drewN ?_ _ | refine blk_drew ?_ | refine blk_alloc ?_ _)); refine blk_put (cs := #[.slice none 0 0, .bool false]) ?_ 0 _ rfl; (with_reducible repeat (first | refine blk_drewN ?_ _ | refine blk_drew ?_ | refine blk_alloc ?_ _)); exact BK310.out) hb); have n2_ := Aside0.mk (below_step bw hb); clear HO308 BK310 HB; have HO308 := n0_; have BK310 := n1_; have HB := n2_; clear n0_ n1_ n2_; (try clear hb); (try clear hb2); (try clear hk); (try clear hi); have hcz56_0 : w55.cell? ⟨gb310, 0, none⟩ = some (.slice Ao53 t306.length co53) := (blk_cell BK310.out 0).trans rfl; have hcz56_1 : w55.cell? ⟨gb310, 1, none⟩ = some (.bool t309) := (blk_cell BK310.out 1).trans rfl; have hfz56_0 := blk_frozen BK310.out 0; have hfz56_1 := blk_frozen BK310.out 1; have TK3_ := Aside0.mk trivial) | (clear TK3_; (with_reducible refine gate_callee (f := 53) rfl ?_); refine goesL_ (some 15) rfl rfl Tryd.func53 (by kernel_rfl) rfl #[.agg #[.slice Ao53 t306.length co53, .bool t309]] rfl (by (try simp only [List.map_toArray, List.map_cons, List.map_nil]); first | done | rfl | (simp only [List.length_drop, List.length_take]; rfl)) ?_; (with_reducible refine (spec_BarsValid.calls k _ _ t306 t309 t312 _ ?side1 ?side2 A5.out).mono ?_); (case side1 => repeat (first | exact (Kd.R_reads' HO308.out).2.2 | (with_reducible refine Kd.C_alloc ?_ _) | (with_reducible refine Kd.C_drewN ?_ _) | (with_reducible refine Kd.C_drew ?_))); (case side2 => exact (Kd.R_reads' HO308.out).2.1); rintro e w57 ⟨rfl, hb⟩; refine ⟨_, rfl, ?_⟩; have n0_ := rB HO308 hb; have n1_ := bkB BK310 hb; have n2_ := Aside0.mk (below_step bw hb); clear HO308 BK310 HB; have HO308 := n0_; have BK310 := n1_; have HB := n2_; clear n0_ n1_ n2_; (try clear hb); (try clear hb2); (try clear hk); (try clear hi); have TK4_ := Aside0.mk trivial) | (clear TK4_; (with_reducible refine gate_callee (f := 21) rfl ?_); refine goesL_ (some 19) rfl rfl Tryd.func21 (by kernel_rfl) rfl #[] rfl (by (try simp only [List.map_toArray, List.map_cons, List.map_nil]); first | done | rfl | (simp only [List.length_drop, List.length_take]; rfl)) ?_; (with_reducible refine (laws_alive.calls k  t324 _ A50.out).mono ?_); rintro e w58 ⟨rfl, hb⟩; refine ⟨_, rfl, ?_⟩; have n0_ := rB HO308 hb; have n1_ := bkB BK310 hb; have n2_ := Aside0.mk (below_step bw hb); clear HO308 BK310 HB; have HO308 := n0_; have BK310 := n1_; have HB := n2_; clear n0_ n1_ n2_; (try clear hb); (try clear hb2); (try clear hk); (try clear hi); have TK5_ := Aside0.mk trivial))
    go_ret
    exact ⟨by first | rfl | (simp [errW_none, errW_some] <;> rfl) | (simp [*, errW_none, errW_some] <;> rfl), bw⟩

/-! ### spec_DrawBayMay: function 54 -/
def spec_DrawBayMay.f (k : Nat) (l0 : List Int) : Option (Bool × Bool × Bool × Bool × Int) := (spec_l20Open.f l0).bind fun bt326 => ((spec_l20Bay.f k bt326.1 bt326.2).bind fun bt329 => ((spec_l20Rd_pick.f k bt326.1 bt329.2.2.2.2 10).bind fun bt334 => (some (bt329.1, bt329.2.1, bt329.2.2.1, bt329.2.2.2.1, wrap64 (bt334.1 - 1)))))
theorem spec_DrawBayMay.mono : ∀ a0 k, LeO (spec_DrawBayMay.f k a0) (spec_DrawBayMay.f (k + 1) a0) := by
 intro a0 k
 unfold spec_DrawBayMay.f
 repeat' first
   | (with_reducible exact spec_l20Bay.mono _ _ _)
   | (with_reducible exact spec_l20Rd_pick.mono _ _ _ _)
   | (with_reducible exact LeO.refl _)
   | (with_reducible exact LeO.none _)
   | (with_reducible refine LeO.ite ?_ ?_)
   | (with_reducible refine LeO.bind ?_ (fun _ => ?_))
   | exact spec_l20Bay.mono _ _ _
   | exact spec_l20Rd_pick.mono _ _ _ _
   | exact LeO.none _
   | refine LeO.ite ?_ ?_
   | refine LeO.bind ?_ (fun _ => ?_)
set_option maxHeartbeats 8000000 in
set_option maxRecDepth 100000 in
theorem spec_DrawBayMay.calls (k : Nat) (A0 : Option Addr) (c0 : Nat) (l0 : List Int) (r1 : Bool) (r2 : Bool) (r3 : Bool) (r4 : Bool) (r5 : Int) (w : World) (hr0 : Kd.C (Kd.int .u8) w A0 l0.length l0) (hc0 : l0.length ≤ c0) (h : spec_DrawBayMay.f k l0 = some (r1, r2, r3, r4, r5)) :
  Calls Tryd.prog 54 #[.slice A0 l0.length c0] w fun e w' => e = .returned (.tuple #[.agg #[.bool r1, .bool r2, .bool r3, .bool r4], .int .i64 r5]) ∧ Below w.heap.size w w' := by
 have hu59 := Tryd.underlying59
 have HR0 := Aside0.mk hr0
 have HC0 := Aside0.mk hc0
 clear hr0 hc0
 have HB := Aside0.mk (Below.refl w.heap.size w)
 have H : ((spec_l20Open.f l0).bind fun bt326 => ((spec_l20Bay.f k bt326.1 bt326.2).bind fun bt329 => ((spec_l20Rd_pick.f k bt326.1 bt329.2.2.2.2 10).bind fun bt334 => (some (bt329.1, bt329.2.1, bt329.2.2.1, bt329.2.2.2.1, wrap64 (bt334.1 - 1)))))) = some (r1, r2, r3, r4, r5) := h
 clear h
 replace H := Option.bind_eq_some_iff.mp H
 obtain ⟨⟨t326, t327⟩, A20, H⟩ := H
 replace H : ((spec_l20Bay.f k t326 t327).bind fun bt329 => ((spec_l20Rd_pick.f k t326 bt329.2.2.2.2 10).bind fun bt334 => (some (bt329.1, bt329.2.1, bt329.2.2.1, bt329.2.2.2.1, wrap64 (bt334.1 - 1))))) = some (r1, r2, r3, r4, r5) := H
 have A2 := Aside0.mk A20
 clear A20
 replace H := Option.bind_eq_some_iff.mp H
 obtain ⟨⟨t329, t330, t331, t332, t333⟩, A30, H⟩ := H
 replace H : ((spec_l20Rd_pick.f k t326 t333 10).bind fun bt334 => (some (t329, t330, t331, t332, wrap64 (bt334.1 - 1)))) = some (r1, r2, r3, r4, r5) := H
 have A3 := Aside0.mk A30
 clear A30
 replace H := Option.bind_eq_some_iff.mp H
 obtain ⟨⟨t334, t335⟩, A40, H⟩ := H
 replace H : (some (t329, t330, t331, t332, wrap64 (t334 - 1))) = some (r1, r2, r3, r4, r5) := H
 have A4 := Aside0.mk A40
 clear A40
 simp only [Option.some.injEq, Prod.mk.injEq] at H
 obtain ⟨rfl, rfl, rfl, rfl, rfl⟩ := H
 go_enter Tryd.func54, Tryd.ntmps54
 have TK0_ := Aside0.mk trivial
 go_wp2_with (first | (clear TK0_; (with_reducible refine gate_dst (N := 2) rfl ?_); refine box_event ?hg (N := 2) ?hd (cs := #[.bool false, .bool false, .bool false, .bool false]) (t := 59) ?hr ?_; (case hd => rfl); (case hg => rfl); (case hr => first | (go_simp; done) | (go_simp; rfl)); intro gb325 hg w5 hbox hb; have n0_ := Aside0.mk (below_step bw hb); have n1_ := Aside0.mk (hbox); have n2_ := Aside0.mk ((by rw [hg]; exact (below_size bw) : w.heap.size ≤ gb325)); have n3_ := Aside0.mk ((by rw [hg]; exact (below_size bw) : w.heap.size ≤ gb325)); clear HB; have HB := n0_; have BK325 := n1_; have GW325 := n2_; have GE325 := n3_; clear n0_ n1_ n2_ n3_; clear hb hbox hg; have TK1_ := Aside0.mk trivial) | (clear TK1_; (with_reducible refine gate_callee (f := 68) rfl ?_); refine goesL_ (some 6) rfl rfl Tryd.func68 (by kernel_rfl) rfl #[.slice A0 l0.length c0] rfl (by (try simp only [List.map_toArray, List.map_cons, List.map_nil]); first | done | rfl | (simp only [List.length_drop, List.length_take]; rfl)) ?_; (with_reducible refine (spec_l20Open.calls _ _ l0 t326 t327 w _ ?side1 ?side2 ?side3 A2.out).mono ?_); (case side1 => exact bw); (case side2 => exact HR0.out); (case side3 => exact HC0.out); rintro e w6 ⟨g328, rfl, hi, hb, hb2⟩; refine ⟨_, rfl, ?_⟩; have n0_ := Aside0.mk (blk_below (g := gb325) (o := .cells #[.bool false, .bool false, .bool false, .bool false] 59 (0, 0)) (bk BK325) hb2); have n1_ := Aside0.mk (hb); have n2_ := Aside0.mk (hi); have n3_ := Aside0.mk (IsS133.ne_blk hi (blk_below (g := gb325) (o := .cells #[.bool false, .bool false, .bool false, .bool false] 59 (0, 0)) (bk BK325) hb2) (by decide)); have n4_ := Aside0.mk (Ne.symm (IsS133.ne_blk hi (blk_below (g := gb325) (o := .cells #[.bool false, .bool false, .bool false, .bool false] 59 (0, 0)) (bk BK325) hb2) (by decide))); clear BK325 HB; have BK325 := n0_; have HB := n1_; have HI328 := n2_; have NB328_325 := n3_; have NB325_328 := n4_; clear n0_ n1_ n2_ n3_ n4_; (try clear hb); (try clear hb2); (try clear hk); (try clear hi); have TK2_ := Aside0.mk trivial) | (clear TK2_; (with_reducible refine gate_callee (f := 100) rfl ?_); refine goesL_ (some 8) rfl rfl Tryd.func100 (by kernel_rfl) rfl #[.pointer (some ⟨g328, 0, none⟩)] rfl (by (try simp only [List.map_toArray, List.map_cons, List.map_nil]); first | done | rfl | (simp only [List.length_drop, List.length_take]; rfl)) ?_; (with_reducible refine (spec_l20Bay.calls k g328 t326 t327 t329 t330 t331 t332 t333 w _ ?side1 ?side2 A3.out).mono ?_); (case side1 => repeat (first | (with_reducible first | exact HI328.out | apply IsS133.alloc | apply IsS133.drewN | apply IsS133.drew | apply IsS133.set_1 | refine IsS133.far ?_ NB328_325.out _) | exact HI328.out)); (case side2 => repeat (first | (with_reducible first | exact HB.out | apply below_alloc | apply pw_below_drewN | apply below_drew1 | refine below_set ?_ (IsS133.ge HI328.out) | refine below_set ?_ GE325.out) | exact HB.out)); rintro e w7 ⟨rfl, hi, hb, hk⟩; refine ⟨_, rfl, ?_⟩; have n0_ := Aside0.mk (KeepBut.blk hk (g' := gb325) (o := .cells #[.bool false, .bool false, .bool false, .bool false] 59 (0, 0)) (bk BK325) NB325_328.out (by simp)); have n1_ := Aside0.mk (hb); have n2_ := Aside0.mk (hi); clear BK325 HB HI328; have BK325 := n0_; have HB := n1_; have HI328 := n2_; clear n0_ n1_ n2_; (try clear hb); (try clear hb2); (try clear hk); (try clear hi); have TK3_ := Aside0.mk trivial) | (clear TK3_; (with_reducible refine gate_callee (f := 80) rfl ?_); refine goesL_ (some 10) rfl rfl Tryd.func80 (by kernel_rfl) rfl #[.pointer (some ⟨g328, 0, none⟩), .int .i64 10] rfl (by (try simp only [List.map_toArray, List.map_cons, List.map_nil]); first | done | rfl | (simp only [List.length_drop, List.length_take]; rfl)) ?_; (with_reducible refine (spec_l20Rd_pick.calls k g328 t326 t333 10 t334 t335 w _ ?side1 ?side2 A4.out).mono ?_); (case side1 => repeat (first | (with_reducible first | exact HI328.out | apply IsS133.alloc | apply IsS133.drewN | apply IsS133.drew | apply IsS133.set_1 | refine IsS133.far ?_ NB328_325.out _) | exact HI328.out)); (case side2 => repeat (first | (with_reducible first | exact HB.out | apply below_alloc | apply pw_below_drewN | apply below_drew1 | refine below_set ?_ (IsS133.ge HI328.out) | refine below_set ?_ GE325.out) | exact HB.out)); rintro e w8 ⟨rfl, hi, hb, hk⟩; refine ⟨_, rfl, ?_⟩; have n0_ := Aside0.mk (KeepBut.blk hk (g' := gb325) (o := .cells #[.bool false, .bool false, .bool false, .bool false] 59 (0, 0)) (bk BK325) NB325_328.out (by simp)); have n1_ := Aside0.mk (hb); have n2_ := Aside0.mk (hi); clear BK325 HB HI328; have BK325 := n0_; have HB := n1_; have HI328 := n2_; clear n0_ n1_ n2_; (try clear hb); (try clear hb2); (try clear hk); (try clear hi); have hnb9 := NB325_328.out; have hnc9 := NB328_325.out; have hcz10_0 : w8.cell? ⟨gb325, 0, none⟩ = some (.bool false) := (blk_cell BK325.out 0).trans rfl; have hcz10_1 : w8.cell? ⟨gb325, 1, none⟩ = some (.bool false) := (blk_cell BK325.out 1).trans rfl; have hcz10_2 : w8.cell? ⟨gb325, 2, none⟩ = some (.bool false) := (blk_cell BK325.out 2).trans rfl; have hcz10_3 : w8.cell? ⟨gb325, 3, none⟩ = some (.bool false) := (blk_cell BK325.out 3).trans rfl; have hfz10_0 := blk_frozen BK325.out 0; have hfz10_1 := blk_frozen BK325.out 1; have hfz10_2 := blk_frozen BK325.out 2; have hfz10_3 := blk_frozen BK325.out 3; have TK4_ := Aside0.mk trivial))
 refine bodyPost_ret (results_ct rfl _ _ gb325 59 #[.bool t329, .bool t330, .bool t331, .bool t332] (0, 0) _ rfl (by (with_reducible repeat (first | refine blk_drewN ?_ _ | refine blk_drew ?_ | refine blk_alloc ?_ _)); refine blk_put (cs := #[.bool t329, .bool t330, .bool t331, .bool false]) ?_ 3 _ rfl; (with_reducible repeat (first | refine blk_drewN ?_ _ | refine blk_drew ?_ | refine blk_alloc ?_ _)); refine blk_put (cs := #[.bool t329, .bool t330, .bool false, .bool false]) ?_ 2 _ rfl; (with_reducible repeat (first | refine blk_drewN ?_ _ | refine blk_drew ?_ | refine blk_alloc ?_ _)); refine blk_put (cs := #[.bool t329, .bool false, .bool false, .bool false]) ?_ 1 _ rfl; (with_reducible repeat (first | refine blk_drewN ?_ _ | refine blk_drew ?_ | refine blk_alloc ?_ _)); refine blk_put (cs := #[.bool false, .bool false, .bool false, .bool false]) ?_ 0 _ rfl; (with_reducible repeat (first | refine blk_drewN ?_ _ | refine blk_drew ?_ | refine blk_alloc ?_ _)); exact BK325.out) Tryd.underlying59 rfl (by kernel_rfl)) rfl ?_
 exact ⟨by first | rfl | (simp [errW_none, errW_some] <;> rfl) | (simp [*, errW_none, errW_some] <;> rfl), by repeat (first | (with_reducible first | exact HB.out | apply below_alloc | apply pw_below_drewN | apply below_drew1 | refine below_set ?_ (IsS133.ge HI328.out) | refine below_set ?_ GE325.out) | exact HB.out)⟩

/-! ### impl_Bay_number: function 104 -/
def impl_Bay_number.bn (b : Bool) (n : Int) : Int := if b = true then n else 0
def impl_Bay_number.f (a0_0 : Bool) (a0_1 : Bool) (a0_2 : Bool) (a0_3 : Bool) : Option (Int) := some (impl_Bay_number.bn a0_0 1 + impl_Bay_number.bn a0_1 2 + impl_Bay_number.bn a0_2 4 + impl_Bay_number.bn a0_3 8)
def impl_Bay_number.pt (a b c d : Bool) (k : Nat) : Int := (if 0 < k then impl_Bay_number.bn a 1 else 0) + (if 1 < k then impl_Bay_number.bn b 2 else 0) + (if 2 < k then impl_Bay_number.bn c 4 else 0) + (if 3 < k then impl_Bay_number.bn d 8 else 0)
set_option maxHeartbeats 2000000 in
set_option maxRecDepth 100000 in
theorem impl_Bay_number.calls (a0_0 : Bool) (a0_1 : Bool) (a0_2 : Bool) (a0_3 : Bool) (r : Int) (w : World) (h : impl_Bay_number.f a0_0 a0_1 a0_2 a0_3 = some r) :
  Calls Tryd.prog 104 #[.agg #[.bool a0_0, .bool a0_1, .bool a0_2, .bool a0_3]] w fun e w' => e = .returned (.int .i64 r) ∧ Below w.heap.size w w' := by
 have i0 : ∀ w, (Instr.index 153 (.agg #[.bool a0_0, .bool a0_1, .bool a0_2, .bool a0_3]) (.int .i64 0)).run Tryd.prog w = .ok (.bool a0_0) w := fun _ => by kernel_rfl
 have i1 : ∀ w, (Instr.index 153 (.agg #[.bool a0_0, .bool a0_1, .bool a0_2, .bool a0_3]) (.int .i64 1)).run Tryd.prog w = .ok (.bool a0_1) w := fun _ => by kernel_rfl
 have i2 : ∀ w, (Instr.index 153 (.agg #[.bool a0_0, .bool a0_1, .bool a0_2, .bool a0_3]) (.int .i64 2)).run Tryd.prog w = .ok (.bool a0_2) w := fun _ => by kernel_rfl
 have i3 : ∀ w, (Instr.index 153 (.agg #[.bool a0_0, .bool a0_1, .bool a0_2, .bool a0_3]) (.int .i64 3)).run Tryd.prog w = .ok (.bool a0_3) w := fun _ => by kernel_rfl
 obtain rfl := Option.some.inj h
 go_enter Tryd.func104, Tryd.ntmps104
 go_wp2
 go_loop [3, 15] (fun n i => ∃ k : Nat, k ≤ 4 ∧ i = .int .i64 k ∧ n = .int .i64 (impl_Bay_number.pt a0_0 a0_1 a0_2 a0_3 k)) (fun _ i => 4 - (intOf i).toNat)
 case atStart => exact ⟨0, by omega, rfl, rfl⟩
 case round =>
  obtain ⟨k, hk, rfl, rfl⟩ := hrel
  have hk4 : k = 0 ∨ k = 1 ∨ k = 2 ∨ k = 3 ∨ k = 4 := by omega
  rcases hk4 with rfl | rfl | rfl | rfl | rfl
  ·cases a0_0 <;>
   ·go_wp2
    go_round
    case rel => exact ⟨1, by omega, rfl, by cases a0_1 <;> cases a0_2 <;> cases a0_3 <;> rfl⟩
    case measure => simp [intOf]
  ·cases a0_1 <;>
   ·go_wp2
    go_round
    case rel => exact ⟨2, by omega, rfl, by cases a0_0 <;> cases a0_2 <;> cases a0_3 <;> rfl⟩
    case measure => simp [intOf]
  ·cases a0_2 <;>
   ·go_wp2
    go_round
    case rel => exact ⟨3, by omega, rfl, by cases a0_0 <;> cases a0_1 <;> cases a0_3 <;> rfl⟩
    case measure => simp [intOf]
  ·cases a0_3 <;>
   ·go_wp2
    go_round
    case rel => exact ⟨4, by omega, rfl, by cases a0_0 <;> cases a0_1 <;> cases a0_2 <;> rfl⟩
    case measure => simp [intOf]
  ·go_wp2
   go_ret
   exact ⟨by cases a0_0 <;> cases a0_1 <;> cases a0_2 <;> cases a0_3 <;> rfl, (Below.refl _ _).alloc (Nat.le_refl _) _⟩

end Go.Proofs.YtoajkfhjgnonjaaDoor.G
