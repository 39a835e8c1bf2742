-- Printed by wip/gen.py of this session's repo, over the kit's print.py. Not trusted: Lean checks it.
import Derived.Test.YtoajkfhjgnonjaaDoorGx0
import Derived.Test.YtoajkfhjgnonjaaDoorSq
import Derived.Test.YtoajkfhjgnonjaaDoorGx1
namespace Go.Proofs.YtoajkfhjgnonjaaDoor.G
open Go.RowKit Go.Proofs.YtoajkfhjgnonjaaDoorW.PrintWords Go.Proofs.YtoajkfhjgnonjaaDoorW.PrintLast Go.Proofs.YtoajkfhjgnonjaaDoorW.PrintMore Go.Proofs.YtoajkfhjgnonjaaDoor.Sq
attribute [local go_sem] max2_int min2_int max_two min_two max_three min_three max_four min_four   -- for this text's walks alone
set_option linter.unusedVariables false
set_option linter.unusedSimpArgs false

/-! ### spec_l20Rd_pick: function 80 -/
def spec_l20Rd_pick.j0 : Nat → Int → Bool → List Int → Int → Option (Int × Int)
 | 0, _, _, _, _ => none
 | k + 1, x1, x24, x1000, x1001 => if x24 = true then (some (0, x1001)) else (if (wrap64 (x1001 - 1)) < (x1000.length : Int) then (if 0 ≤ (wrap64 (x1001 - 1)) then (if x1 = 0 then (none) else (some (Int.tmod (wrap64 (rd x1000 (wrap64 (x1001 - 1)))) x1, x1001))) else (none)) else (if (x1000.length : Int) = 0 then (none) else (if 0 ≤ (Int.tmod (wrap64 (x1001 - 1)) (x1000.length : Int)) then (if (Int.tmod (wrap64 (x1001 - 1)) (x1000.length : Int)) < (x1000.length : Int) then (if 0 ≤ (Int.tmod (wrap64 ((wrap64 ((wrap64 (x1001 - 1)) * 7)) + 3)) (x1000.length : Int)) then (if (Int.tmod (wrap64 ((wrap64 ((wrap64 (x1001 - 1)) * 7)) + 3)) (x1000.length : Int)) < (x1000.length : Int) then (if x1 = 0 then (none) else (some (Int.tmod (Go.bits .xor .i64 (wrap64 ((wrap64 ((wrap64 ((wrap64 ((wrap64 (rd x1000 (Int.tmod (wrap64 (x1001 - 1)) (x1000.length : Int)))) * 131)) + (wrap64 ((wrap64 (rd x1000 (Int.tmod (wrap64 ((wrap64 ((wrap64 (x1001 - 1)) * 7)) + 3)) (x1000.length : Int)))) * 1117)))) + (wrap64 ((wrap64 (x1001 - 1)) * 29)))) + (wrap64 ((wrap64 (Int.tdiv (wrap64 (x1001 - 1)) (x1000.length : Int))) * 53)))) (wrap64 (Int.tdiv (wrap64 ((wrap64 ((wrap64 ((wrap64 ((wrap64 (rd x1000 (Int.tmod (wrap64 (x1001 - 1)) (x1000.length : Int)))) * 131)) + (wrap64 ((wrap64 (rd x1000 (Int.tmod (wrap64 ((wrap64 ((wrap64 (x1001 - 1)) * 7)) + 3)) (x1000.length : Int)))) * 1117)))) + (wrap64 ((wrap64 (x1001 - 1)) * 29)))) + (wrap64 ((wrap64 (Int.tdiv (wrap64 (x1001 - 1)) (x1000.length : Int))) * 53)))) 64))) x1, x1001))) else (none)) else (none)) else (none)) else (none))))
def spec_l20Rd_pick.f (k : Nat) (s0_0 : List Int) (s0_1 : Int) (a1 : Int) : Option (Int × Int) := if a1 < 1 then (spec_l20Rd_pick.j0 k a1 true s0_0 (wrap64 (s0_1 + 1))) else (spec_l20Rd_pick.j0 k a1 ((s0_0.length : Int) == 0) s0_0 (wrap64 (s0_1 + 1)))
theorem spec_l20Rd_pick.mono_l : ∀ k, (∀ y0 y1 y2 y3, LeO (spec_l20Rd_pick.j0 k y0 y1 y2 y3) (spec_l20Rd_pick.j0 (k + 1) y0 y1 y2 y3))
 | 0 => fun _ _ _ _ r h => by simp [spec_l20Rd_pick.j0] at h
 | k + 1 => by
  have ih0 := spec_l20Rd_pick.mono_l k
  ·intro y0 y1 y2 y3
   unfold spec_l20Rd_pick.j0
   repeat' first
   | (with_reducible exact ih0 _ _ _ _)
   | (with_reducible exact LeO.refl _)
   | (with_reducible exact LeO.none _)
   | (with_reducible refine LeO.ite ?_ ?_)
   | (with_reducible refine LeO.bind ?_ (fun _ => ?_))
   | exact ih0 _ _ _ _
   | exact LeO.none _
   | refine LeO.ite ?_ ?_
   | refine LeO.bind ?_ (fun _ => ?_)
theorem spec_l20Rd_pick.mono : ∀ a0 a1 a2 k, LeO (spec_l20Rd_pick.f k a0 a1 a2) (spec_l20Rd_pick.f (k + 1) a0 a1 a2) := by
 intro a0 a1 a2 k
 have ih0 := spec_l20Rd_pick.mono_l k
 unfold spec_l20Rd_pick.f
 repeat' first
   | (with_reducible exact ih0 _ _ _ _)
   | (with_reducible exact LeO.refl _)
   | (with_reducible exact LeO.none _)
   | (with_reducible refine LeO.ite ?_ ?_)
   | (with_reducible refine LeO.bind ?_ (fun _ => ?_))
   | exact ih0 _ _ _ _
   | exact LeO.none _
   | refine LeO.ite ?_ ?_
   | refine LeO.bind ?_ (fun _ => ?_)
set_option maxHeartbeats 8000000 in
set_option maxRecDepth 100000 in
theorem spec_l20Rd_pick.calls (k : Nat) (g : Nat) (s0_0 : List Int) (s0_1 : Int) (a1 : Int) (r1 : Int) (r2 : Int) (w0 w : World) (hI : IsS133 w0 w g s0_0 s0_1) (hB : Below w0.heap.size w0 w) (h : spec_l20Rd_pick.f k s0_0 s0_1 a1 = some (r1, r2)) :
  Calls Tryd.prog 80 #[.pointer (some ⟨g, 0, none⟩), .int .i64 a1] w fun e w' => e = .returned (.int .i64 r1) ∧ IsS133 w0 w' g s0_0 r2 ∧ Below w0.heap.size w0 w' ∧ KeepBut w w' g none := by
 have HI0 := Aside0.mk hI
 have HK := Aside0.mk (KeepBut.refl w g none)
 have HL := Aside0.mk hB.size
 clear hI
 have HW0 := Aside0.mk hB.size
 have HB := Aside0.mk hB
 clear hB
 have H : (if a1 < 1 then (spec_l20Rd_pick.j0 k a1 true s0_0 (wrap64 (s0_1 + 1))) else (spec_l20Rd_pick.j0 k a1 ((s0_0.length : Int) == 0) s0_0 (wrap64 (s0_1 + 1)))) = some (r1, r2) := h
 clear h
 have HC3 := Aside0.mk H
 clear H
 obtain ⟨ASz4_0, cSz4_0, HGz4, hgz4, HSz4_0⟩ := HI0.out
 have hcz4_0 := cellS133_0 HGz4
 have hcz4_1 := cellS133_1 HGz4
 have hfz4_1 := blk_frozen HGz4 1
 clear HGz4 hgz4
 go_enter Tryd.func80, Tryd.ntmps80
 go_upto_region 2 with (fail)
 repeat (go_quiet (fail); go_upto_region 2 with (fail))
 go_cut [24] (fun v24 wc => ∃ (kq : Nat) (x24_2 : Bool), v24 = .bool x24_2 ∧ Aside0 (spec_l20Rd_pick.j0 kq a1 x24_2 s0_0 (wrap64 (s0_1 + 1)) = some (r1, r2)) ∧ Aside0 (kq ≤ k) ∧ Aside0 (IsS133 w0 wc g s0_0 (wrap64 (s0_1 + 1))) ∧ Aside0 (KeepBut w wc g none) ∧ Aside0 (Below w0.heap.size w0 wc))
 case first =>
  have H := HC3.out
  clear HC3
  by_cases c5 : a1 < 1
  ·rw [if_pos c5] at H
   have c5b0 : decide (a1 < 1) = true := decide_eq_true c5
   clear c5
   (first | rw [c5b0] | (simp only [i64_w, i32_w]; rw [c5b0]) | skip)
   have H' := Aside0.mk H
   clear H
   go_wp2
   repeat (go_quiet (fail); try go_wp2)
   go_meet
   case rel => exact ⟨_, (true), (by first | rfl | (simp; done) | (simp [*]; done)), H', ⟨by first | omega | exact Nat.le_refl _⟩, ⟨by repeat (first | (with_reducible first | exact HI0.out | apply IsS133.alloc | apply IsS133.drewN | apply IsS133.drew | apply IsS133.set_1) | exact HI0.out)⟩, ⟨by repeat (first | (with_reducible first | exact HK.out | apply KeepBut.set_ | apply keep_drewN | apply keep_drew | apply keep_alloc) | exact HK.out)⟩, ⟨by repeat (first | (with_reducible first | exact HB.out | apply below_alloc | apply pw_below_drewN | apply below_drew1 | refine below_set ?_ (IsS133.ge HI0.out)) | exact HB.out)⟩⟩
  ·rw [if_neg c5] at H
   have c5b0 : decide (a1 < 1) = false := decide_eq_false c5
   clear c5
   (first | rw [c5b0] | (simp only [i64_w, i32_w]; rw [c5b0]) | skip)
   have H' := Aside0.mk H
   clear H
   obtain ⟨ASz6_0, cSz6_0, HGz6, hgz6, HSz6_0⟩ := HI0.out
   have hcz6_0 := cellS133_0 HGz6
   have hcz6_1 := cellS133_1 HGz6
   have hfz6_1 := blk_frozen HGz6 1
   clear HGz6 hgz6
   go_wp2
   repeat (go_quiet (fail); try go_wp2)
   go_meet
   case rel => exact ⟨_, (((s0_0.length : Int) == 0)), (by first | rfl | (simp; done) | (simp [*]; done)), H', ⟨by first | omega | exact Nat.le_refl _⟩, ⟨by repeat (first | (with_reducible first | exact HI0.out | apply IsS133.alloc | apply IsS133.drewN | apply IsS133.drew | apply IsS133.set_1) | exact HI0.out)⟩, ⟨by repeat (first | (with_reducible first | exact HK.out | apply KeepBut.set_ | apply keep_drewN | apply keep_drew | apply keep_alloc) | exact HK.out)⟩, ⟨by repeat (first | (with_reducible first | exact HB.out | apply below_alloc | apply pw_below_drewN | apply below_drew1 | refine below_set ?_ (IsS133.ge HI0.out)) | exact HB.out)⟩⟩
 case rest =>
  clear HC3
  try clear p2
  try clear c5
  try clear c5b0
  try clear p6
  try clear hcz4_0
  try clear hcz4_1
  try clear hcz6_0
  try clear hcz6_1
  try clear hfz4_1
  try clear hfz6_1
  obtain ⟨kq, x24_2, rfl, HA, HJ2, HI0, HK, HB⟩ := hcut
  cases kq with
  | zero => exact absurd HA.out (by simp [spec_l20Rd_pick.j0])
  | succ kj2 =>
   have H := HA.out
   clear HA
   simp only [spec_l20Rd_pick.j0] at H
   by_cases c7 : x24_2 = true
   ·subst c7
    have H1 : (some (0, (wrap64 (s0_1 + 1)))) = some (r1, r2) := by rw [if_pos rfl] at H; exact H
    clear H
    have H := H1
    clear H1
    simp only [Option.some.injEq, Prod.mk.injEq] at H
    obtain ⟨rfl, rfl⟩ := H
    go_wp2
    repeat (go_quiet (fail); try go_wp2)
    go_ret
    exact ⟨by first | rfl | (simp [errW_none, errW_some] <;> rfl) | (simp [*, errW_none, errW_some] <;> rfl), by repeat (first | (with_reducible first | exact HI0.out | apply IsS133.alloc | apply IsS133.drewN | apply IsS133.drew | apply IsS133.set_1) | exact HI0.out), by repeat (first | (with_reducible first | exact HB.out | apply below_alloc | apply pw_below_drewN | apply below_drew1 | refine below_set ?_ (IsS133.ge HI0.out)) | exact HB.out), by repeat (first | (with_reducible first | exact HK.out | apply KeepBut.set_ | apply keep_drewN | apply keep_drew | apply keep_alloc) | exact HK.out)⟩
   ·replace c7 := Bool.eq_false_iff.mpr c7
    subst c7
    have H1 : (if (wrap64 ((wrap64 (s0_1 + 1)) - 1)) < (s0_0.length : Int) then (if 0 ≤ (wrap64 ((wrap64 (s0_1 + 1)) - 1)) then (if a1 = 0 then (none) else (some (Int.tmod (wrap64 (rd s0_0 (wrap64 ((wrap64 (s0_1 + 1)) - 1)))) a1, (wrap64 (s0_1 + 1))))) else (none)) else (if (s0_0.length : Int) = 0 then (none) else (if 0 ≤ (Int.tmod (wrap64 ((wrap64 (s0_1 + 1)) - 1)) (s0_0.length : Int)) then (if (Int.tmod (wrap64 ((wrap64 (s0_1 + 1)) - 1)) (s0_0.length : Int)) < (s0_0.length : Int) then (if 0 ≤ (Int.tmod (wrap64 ((wrap64 ((wrap64 ((wrap64 (s0_1 + 1)) - 1)) * 7)) + 3)) (s0_0.length : Int)) then (if (Int.tmod (wrap64 ((wrap64 ((wrap64 ((wrap64 (s0_1 + 1)) - 1)) * 7)) + 3)) (s0_0.length : Int)) < (s0_0.length : Int) then (if a1 = 0 then (none) else (some (Int.tmod (Go.bits .xor .i64 (wrap64 ((wrap64 ((wrap64 ((wrap64 ((wrap64 (rd s0_0 (Int.tmod (wrap64 ((wrap64 (s0_1 + 1)) - 1)) (s0_0.length : Int)))) * 131)) + (wrap64 ((wrap64 (rd s0_0 (Int.tmod (wrap64 ((wrap64 ((wrap64 ((wrap64 (s0_1 + 1)) - 1)) * 7)) + 3)) (s0_0.length : Int)))) * 1117)))) + (wrap64 ((wrap64 ((wrap64 (s0_1 + 1)) - 1)) * 29)))) + (wrap64 ((wrap64 (Int.tdiv (wrap64 ((wrap64 (s0_1 + 1)) - 1)) (s0_0.length : Int))) * 53)))) (wrap64 (Int.tdiv (wrap64 ((wrap64 ((wrap64 ((wrap64 ((wrap64 (rd s0_0 (Int.tmod (wrap64 ((wrap64 (s0_1 + 1)) - 1)) (s0_0.length : Int)))) * 131)) + (wrap64 ((wrap64 (rd s0_0 (Int.tmod (wrap64 ((wrap64 ((wrap64 ((wrap64 (s0_1 + 1)) - 1)) * 7)) + 3)) (s0_0.length : Int)))) * 1117)))) + (wrap64 ((wrap64 ((wrap64 (s0_1 + 1)) - 1)) * 29)))) + (wrap64 ((wrap64 (Int.tdiv (wrap64 ((wrap64 (s0_1 + 1)) - 1)) (s0_0.length : Int))) * 53)))) 64))) a1, (wrap64 (s0_1 + 1))))) else (none)) else (none)) else (none)) else (none)))) = some (r1, r2) := by rw [if_neg (show ¬ (false = true) by decide)] at H; exact H
    clear H
    have H := H1
    clear H1
    by_cases c8 : (wrap64 ((wrap64 (s0_1 + 1)) - 1)) < (s0_0.length : Int)
    ·rw [if_pos c8] at H
     have c8b0 : decide ((wrap64 ((wrap64 (s0_1 + 1)) - 1)) < (s0_0.length : Int)) = true := decide_eq_true c8
     clear c8
     obtain ⟨ji9, hji9⟩ : ∃ j_ : Int, (wrap64 ((wrap64 (s0_1 + 1)) - 1)) = j_ := ⟨_, rfl⟩
     replace H : (if 0 ≤ (ji9) then (if a1 = 0 then (none) else (some (Int.tmod (wrap64 (rd s0_0 (ji9))) a1, (wrap64 (s0_1 + 1))))) else (none)) = some (r1, r2) := by first | (rw [hji9] at H; exact H) | (simp only [hji9] at H ⊢; exact H)
     (try rw [hji9] at c8b0)
     have hji9w : (IntKind.i64.wrap ((wrap64 (s0_1 + 1)) - 1)) = ji9 := (i64_w _).trans hji9
     by_cases c10 : 0 ≤ (ji9)
     ·rw [if_pos c10] at H
      have c10b0 : decide (0 ≤ (ji9)) = true := decide_eq_true c10
      clear c10
      by_cases c11 : a1 = 0
      ·rw [if_pos c11] at H
       exact absurd H (by simp)
      ·rw [if_neg c11] at H
       have c11b0 : (a1 == 0) = false := beq_eq_false_iff_ne.mpr c11
       have c11b1 : (a1 != 0) = true := bne_iff_ne.mpr c11
       simp only [Option.some.injEq, Prod.mk.injEq] at H
       obtain ⟨rfl, rfl⟩ := H
       obtain ⟨ASz12_0, cSz12_0, HGz12, hgz12, HSz12_0⟩ := HI0.out
       have hcz12_0 := cellS133_0 HGz12
       have hcz12_1 := cellS133_1 HGz12
       have hfz12_1 := blk_frozen HGz12 1
       clear HGz12 hgz12
       have p122 : 0 ≤ ((ji9) : Int) := of_decide_eq_true (by first | (with_reducible assumption) | assumption)
       have q122 : (ji9) < (s0_0.length : Int) := of_decide_eq_true (by first | (with_reducible assumption) | assumption)
       obtain ⟨ad122, e122, hx122_0⟩ := Kd.at_int HSz12_0 (ji9) p122 q122
       cases e122
       replace hx122_0 := pw_cell_below HB.out hx122_0
       replace p122 := eq_true p122
       replace q122 := eq_true q122
       go_wp2
       repeat (go_quiet (fail); try go_wp2)
       go_ret
       exact ⟨by first | rfl | (simp [errW_none, errW_some] <;> rfl) | (simp only [← hji9]; first | rfl | (simp [errW_none, errW_some] <;> rfl)) | (simp [*, errW_none, errW_some] <;> rfl), by repeat (first | (with_reducible first | exact HI0.out | apply IsS133.alloc | apply IsS133.drewN | apply IsS133.drew | apply IsS133.set_1) | exact HI0.out), by repeat (first | (with_reducible first | exact HB.out | apply below_alloc | apply pw_below_drewN | apply below_drew1 | refine below_set ?_ (IsS133.ge HI0.out)) | exact HB.out), by repeat (first | (with_reducible first | exact HK.out | apply KeepBut.set_ | apply keep_drewN | apply keep_drew | apply keep_alloc) | exact HK.out)⟩
     ·rw [if_neg c10] at H
      exact absurd H (by simp)
    ·rw [if_neg c8] at H
     have c8b0 : decide ((wrap64 ((wrap64 (s0_1 + 1)) - 1)) < (s0_0.length : Int)) = false := decide_eq_false c8
     clear c8
     by_cases c13 : (s0_0.length : Int) = 0
     ·rw [if_pos c13] at H
      exact absurd H (by simp)
     ·rw [if_neg c13] at H
      have c13b0 : ((s0_0.length : Int) == 0) = false := beq_eq_false_iff_ne.mpr c13
      have c13b1 : ((s0_0.length : Int) != 0) = true := bne_iff_ne.mpr c13
      have c13b2 : ¬ (s0_0 = []) := fun h_ => c13 (by rw [h_]; rfl)
      obtain ⟨ji14, hji14⟩ : ∃ j_ : Int, (Int.tmod (wrap64 ((wrap64 (s0_1 + 1)) - 1)) (s0_0.length : Int)) = j_ := ⟨_, rfl⟩
      replace H : (if 0 ≤ (ji14) then (if (ji14) < (s0_0.length : Int) then (if 0 ≤ (Int.tmod (wrap64 ((wrap64 ((wrap64 ((wrap64 (s0_1 + 1)) - 1)) * 7)) + 3)) (s0_0.length : Int)) then (if (Int.tmod (wrap64 ((wrap64 ((wrap64 ((wrap64 (s0_1 + 1)) - 1)) * 7)) + 3)) (s0_0.length : Int)) < (s0_0.length : Int) then (if a1 = 0 then (none) else (some (Int.tmod (Go.bits .xor .i64 (wrap64 ((wrap64 ((wrap64 ((wrap64 ((wrap64 (rd s0_0 (ji14))) * 131)) + (wrap64 ((wrap64 (rd s0_0 (Int.tmod (wrap64 ((wrap64 ((wrap64 ((wrap64 (s0_1 + 1)) - 1)) * 7)) + 3)) (s0_0.length : Int)))) * 1117)))) + (wrap64 ((wrap64 ((wrap64 (s0_1 + 1)) - 1)) * 29)))) + (wrap64 ((wrap64 (Int.tdiv (wrap64 ((wrap64 (s0_1 + 1)) - 1)) (s0_0.length : Int))) * 53)))) (wrap64 (Int.tdiv (wrap64 ((wrap64 ((wrap64 ((wrap64 ((wrap64 (rd s0_0 (ji14))) * 131)) + (wrap64 ((wrap64 (rd s0_0 (Int.tmod (wrap64 ((wrap64 ((wrap64 ((wrap64 (s0_1 + 1)) - 1)) * 7)) + 3)) (s0_0.length : Int)))) * 1117)))) + (wrap64 ((wrap64 ((wrap64 (s0_1 + 1)) - 1)) * 29)))) + (wrap64 ((wrap64 (Int.tdiv (wrap64 ((wrap64 (s0_1 + 1)) - 1)) (s0_0.length : Int))) * 53)))) 64))) a1, (wrap64 (s0_1 + 1))))) else (none)) else (none)) else (none)) else (none)) = some (r1, r2) := by first | (rw [hji14] at H; exact H) | (simp only [hji14] at H ⊢; exact H)
      by_cases c15 : 0 ≤ (ji14)
      ·rw [if_pos c15] at H
       have c15b0 : decide (0 ≤ (ji14)) = true := decide_eq_true c15
       clear c15
       by_cases c16 : (ji14) < (s0_0.length : Int)
       ·rw [if_pos c16] at H
        have c16b0 : decide ((ji14) < (s0_0.length : Int)) = true := decide_eq_true c16
        clear c16
        obtain ⟨ji17, hji17⟩ : ∃ j_ : Int, (Int.tmod (wrap64 ((wrap64 ((wrap64 ((wrap64 (s0_1 + 1)) - 1)) * 7)) + 3)) (s0_0.length : Int)) = j_ := ⟨_, rfl⟩
        replace H : (if 0 ≤ (ji17) then (if (ji17) < (s0_0.length : Int) then (if a1 = 0 then (none) else (some (Int.tmod (Go.bits .xor .i64 (wrap64 ((wrap64 ((wrap64 ((wrap64 ((wrap64 (rd s0_0 (ji14))) * 131)) + (wrap64 ((wrap64 (rd s0_0 (ji17))) * 1117)))) + (wrap64 ((wrap64 ((wrap64 (s0_1 + 1)) - 1)) * 29)))) + (wrap64 ((wrap64 (Int.tdiv (wrap64 ((wrap64 (s0_1 + 1)) - 1)) (s0_0.length : Int))) * 53)))) (wrap64 (Int.tdiv (wrap64 ((wrap64 ((wrap64 ((wrap64 ((wrap64 (rd s0_0 (ji14))) * 131)) + (wrap64 ((wrap64 (rd s0_0 (ji17))) * 1117)))) + (wrap64 ((wrap64 ((wrap64 (s0_1 + 1)) - 1)) * 29)))) + (wrap64 ((wrap64 (Int.tdiv (wrap64 ((wrap64 (s0_1 + 1)) - 1)) (s0_0.length : Int))) * 53)))) 64))) a1, (wrap64 (s0_1 + 1))))) else (none)) else (none)) = some (r1, r2) := by first | (rw [hji17] at H; exact H) | (simp only [hji17] at H ⊢; exact H)
        by_cases c18 : 0 ≤ (ji17)
        ·rw [if_pos c18] at H
         have c18b0 : decide (0 ≤ (ji17)) = true := decide_eq_true c18
         clear c18
         by_cases c19 : (ji17) < (s0_0.length : Int)
         ·rw [if_pos c19] at H
          have c19b0 : decide ((ji17) < (s0_0.length : Int)) = true := decide_eq_true c19
          clear c19
          by_cases c20 : a1 = 0
          ·rw [if_pos c20] at H
           exact absurd H (by simp)
          ·rw [if_neg c20] at H
           have c20b0 : (a1 == 0) = false := beq_eq_false_iff_ne.mpr c20
           have c20b1 : (a1 != 0) = true := bne_iff_ne.mpr c20
           simp only [Option.some.injEq, Prod.mk.injEq] at H
           obtain ⟨rfl, rfl⟩ := H
           obtain ⟨ASz21_0, cSz21_0, HGz21, hgz21, HSz21_0⟩ := HI0.out
           have hcz21_0 := cellS133_0 HGz21
           have hcz21_1 := cellS133_1 HGz21
           have hfz21_1 := blk_frozen HGz21 1
           clear HGz21 hgz21
           have p123 : 0 ≤ ((ji14) : Int) := of_decide_eq_true (by first | (with_reducible assumption) | assumption)
           have q123 : (ji14) < (s0_0.length : Int) := of_decide_eq_true (by first | (with_reducible assumption) | assumption)
           obtain ⟨ad123, e123, hx123_0⟩ := Kd.at_int HSz21_0 (ji14) p123 q123
           cases e123
           replace hx123_0 := pw_cell_below HB.out hx123_0
           replace p123 := eq_true p123
           replace q123 := eq_true q123
           have p124 : 0 ≤ ((ji17) : Int) := of_decide_eq_true (by first | (with_reducible assumption) | assumption)
           have q124 : (ji17) < (s0_0.length : Int) := of_decide_eq_true (by first | (with_reducible assumption) | assumption)
           obtain ⟨ad124, e124, hx124_0⟩ := Kd.at_int HSz21_0 (ji17) p124 q124
           obtain rfl : ad123 = ad124 := (by injection e124)
           replace hx124_0 := pw_cell_below HB.out hx124_0
           replace p124 := eq_true p124
           replace q124 := eq_true q124
           go_wp2
           repeat (go_quiet (fail); try go_wp2)
           go_ret
           exact ⟨by first | rfl | (simp [errW_none, errW_some] <;> rfl) | (simp only [← hji14, ← hji17]; first | rfl | (simp [errW_none, errW_some] <;> rfl)) | (simp [*, errW_none, errW_some] <;> rfl), by repeat (first | (with_reducible first | exact HI0.out | apply IsS133.alloc | apply IsS133.drewN | apply IsS133.drew | apply IsS133.set_1) | exact HI0.out), by repeat (first | (with_reducible first | exact HB.out | apply below_alloc | apply pw_below_drewN | apply below_drew1 | refine below_set ?_ (IsS133.ge HI0.out)) | exact HB.out), by repeat (first | (with_reducible first | exact HK.out | apply KeepBut.set_ | apply keep_drewN | apply keep_drew | apply keep_alloc) | exact HK.out)⟩
         ·rw [if_neg c19] at H
          exact absurd H (by simp)
        ·rw [if_neg c18] at H
         exact absurd H (by simp)
       ·rw [if_neg c16] at H
        exact absurd H (by simp)
      ·rw [if_neg c15] at H
       exact absurd H (by simp)

/-! ### spec_l9Bay: function 135 -/
def spec_l9Bay.f (a0 : Int) : Option (Bool × Bool × Bool × Bool) := some (((Int.tmod a0 2) == 1), ((Int.tmod (wrap64 (Int.tdiv a0 2)) 2) == 1), ((Int.tmod (wrap64 (Int.tdiv a0 4)) 2) == 1), ((wrap64 (Int.tdiv a0 8)) == 1))
set_option maxHeartbeats 8000000 in
set_option maxRecDepth 100000 in
theorem spec_l9Bay.calls (a0 : Int) (r1 : Bool) (r2 : Bool) (r3 : Bool) (r4 : Bool) (w : World) (h : spec_l9Bay.f a0 = some (r1, r2, r3, r4)) :
  Calls Tryd.prog 135 #[.int .i64 a0] w fun e w' => e = .returned (.agg #[.bool r1, .bool r2, .bool r3, .bool r4]) ∧ Below w.heap.size w w' := by
 have hu59 := Tryd.underlying59
 have HB := Aside0.mk (Below.refl w.heap.size w)
 have H : (some (((Int.tmod a0 2) == 1), ((Int.tmod (wrap64 (Int.tdiv a0 2)) 2) == 1), ((Int.tmod (wrap64 (Int.tdiv a0 4)) 2) == 1), ((wrap64 (Int.tdiv a0 8)) == 1))) = some (r1, r2, r3, r4) := h
 clear h
 simp only [Option.some.injEq, Prod.mk.injEq] at H
 obtain ⟨rfl, rfl, rfl, rfl⟩ := H
 go_enter Tryd.func135, Tryd.ntmps135
 go_wp2_with (first | ((with_reducible refine gate_dst (N := 2) rfl ?_); refine box_event ?hg (N := 2) ?hd (cs := #[.bool false, .bool false, .bool false, .bool false]) (t := 59) ?hr ?_; (case hd => rfl); (case hg => rfl); (case hr => first | (go_simp; done) | (go_simp; rfl)); intro gb125 hg w2 hbox hb; have n0_ := Aside0.mk (below_step bw hb); have n1_ := Aside0.mk (hbox); have n2_ := Aside0.mk ((by rw [hg]; exact (below_size bw) : w.heap.size ≤ gb125)); have n3_ := Aside0.mk ((by rw [hg]; exact (below_size bw) : w.heap.size ≤ gb125)); clear HB; have HB := n0_; have BK125 := n1_; have GW125 := n2_; have GE125 := n3_; clear n0_ n1_ n2_ n3_; clear hb hbox hg; have hcz3_0 : w2.cell? ⟨gb125, 0, none⟩ = some (.bool false) := (blk_cell BK125.out 0).trans rfl; have hcz3_1 : w2.cell? ⟨gb125, 1, none⟩ = some (.bool false) := (blk_cell BK125.out 1).trans rfl; have hcz3_2 : w2.cell? ⟨gb125, 2, none⟩ = some (.bool false) := (blk_cell BK125.out 2).trans rfl; have hcz3_3 : w2.cell? ⟨gb125, 3, none⟩ = some (.bool false) := (blk_cell BK125.out 3).trans rfl; have hfz3_0 := blk_frozen BK125.out 0; have hfz3_1 := blk_frozen BK125.out 1; have hfz3_2 := blk_frozen BK125.out 2; have hfz3_3 := blk_frozen BK125.out 3))
 refine bodyPost_ret (results_cell_row rfl _ _ gb125 59 #[.bool ((Int.tmod a0 2) == 1), .bool ((Int.tmod (wrap64 (Int.tdiv a0 2)) 2) == 1), .bool ((Int.tmod (wrap64 (Int.tdiv a0 4)) 2) == 1), .bool ((wrap64 (Int.tdiv a0 8)) == 1)] (0, 0) _ rfl (by (with_reducible repeat (first | refine blk_drewN ?_ _ | refine blk_drew ?_ | refine blk_alloc ?_ _)); refine blk_put (cs := #[.bool ((Int.tmod a0 2) == 1), .bool ((Int.tmod (wrap64 (Int.tdiv a0 2)) 2) == 1), .bool ((Int.tmod (wrap64 (Int.tdiv a0 4)) 2) == 1), .bool false]) ?_ 3 _ rfl; (with_reducible repeat (first | refine blk_drewN ?_ _ | refine blk_drew ?_ | refine blk_alloc ?_ _)); refine blk_put (cs := #[.bool ((Int.tmod a0 2) == 1), .bool ((Int.tmod (wrap64 (Int.tdiv a0 2)) 2) == 1), .bool false, .bool false]) ?_ 2 _ rfl; (with_reducible repeat (first | refine blk_drewN ?_ _ | refine blk_drew ?_ | refine blk_alloc ?_ _)); refine blk_put (cs := #[.bool ((Int.tmod a0 2) == 1), .bool false, .bool false, .bool false]) ?_ 1 _ rfl; (with_reducible repeat (first | refine blk_drewN ?_ _ | refine blk_drew ?_ | refine blk_alloc ?_ _)); refine blk_put (cs := #[.bool false, .bool false, .bool false, .bool false]) ?_ 0 _ rfl; (with_reducible repeat (first | refine blk_drewN ?_ _ | refine blk_drew ?_ | refine blk_alloc ?_ _)); exact BK125.out) Tryd.underlying59 rfl (by kernel_rfl)) rfl ?_
 exact ⟨by first | rfl | (simp [errW_none, errW_some] <;> rfl) | (simp [*, errW_none, errW_some] <;> rfl), bw⟩

/-! ### spec_l20Bay: function 100 -/
def spec_l20Bay.f (k : Nat) (s0_0 : List Int) (s0_1 : Int) : Option (Bool × Bool × Bool × Bool × Int) := (spec_l20Rd_pick.f k s0_0 s0_1 16).bind fun bt127 => ((spec_l9Bay.f bt127.1).bind fun bt129 => (some (bt129.1, bt129.2.1, bt129.2.2.1, bt129.2.2.2, bt127.2)))
theorem spec_l20Bay.mono : ∀ a0 a1 k, LeO (spec_l20Bay.f k a0 a1) (spec_l20Bay.f (k + 1) a0 a1) := by
 intro a0 a1 k
 unfold spec_l20Bay.f
 repeat' first
   | (with_reducible exact spec_l20Rd_pick.mono _ _ _ _)
   | (with_reducible exact LeO.refl _)
   | (with_reducible exact LeO.none _)
   | (with_reducible refine LeO.ite ?_ ?_)
   | (with_reducible refine LeO.bind ?_ (fun _ => ?_))
   | exact spec_l20Rd_pick.mono _ _ _ _
   | exact LeO.none _
   | refine LeO.ite ?_ ?_
   | refine LeO.bind ?_ (fun _ => ?_)
set_option maxHeartbeats 8000000 in
set_option maxRecDepth 100000 in
theorem spec_l20Bay.calls (k : Nat) (g : Nat) (s0_0 : List Int) (s0_1 : Int) (r1 : Bool) (r2 : Bool) (r3 : Bool) (r4 : Bool) (r5 : Int) (w0 w : World) (hI : IsS133 w0 w g s0_0 s0_1) (hB : Below w0.heap.size w0 w) (h : spec_l20Bay.f k s0_0 s0_1 = some (r1, r2, r3, r4, r5)) :
  Calls Tryd.prog 100 #[.pointer (some ⟨g, 0, none⟩)] w fun e w' => e = .returned (.agg #[.bool r1, .bool r2, .bool r3, .bool r4]) ∧ IsS133 w0 w' g s0_0 r5 ∧ Below w0.heap.size w0 w' ∧ KeepBut w w' g none := by
 have hu59 := Tryd.underlying59
 have HI0 := Aside0.mk hI
 have HK := Aside0.mk (KeepBut.refl w g none)
 have HL := Aside0.mk hB.size
 clear hI
 have HW0 := Aside0.mk hB.size
 have HB := Aside0.mk hB
 clear hB
 have H : ((spec_l20Rd_pick.f k s0_0 s0_1 16).bind fun bt127 => ((spec_l9Bay.f bt127.1).bind fun bt129 => (some (bt129.1, bt129.2.1, bt129.2.2.1, bt129.2.2.2, bt127.2)))) = some (r1, r2, r3, r4, r5) := h
 clear h
 replace H := Option.bind_eq_some_iff.mp H
 obtain ⟨⟨t127, t128⟩, A20, H⟩ := H
 replace H : ((spec_l9Bay.f t127).bind fun bt129 => (some (bt129.1, bt129.2.1, bt129.2.2.1, bt129.2.2.2, t128))) = some (r1, r2, r3, r4, r5) := H
 have A2 := Aside0.mk A20
 clear A20
 replace H := Option.bind_eq_some_iff.mp H
 obtain ⟨⟨t129, t130, t131, t132⟩, A30, H⟩ := H
 replace H : (some (t129, t130, t131, t132, t128)) = some (r1, r2, r3, r4, r5) := H
 have A3 := Aside0.mk A30
 clear A30
 simp only [Option.some.injEq, Prod.mk.injEq] at H
 obtain ⟨rfl, rfl, rfl, rfl, rfl⟩ := H
 go_enter Tryd.func100, Tryd.ntmps100
 have TK0_ := Aside0.mk trivial
 go_wp2_with (first | (clear TK0_; (with_reducible refine gate_dst (N := 2) rfl ?_); refine box_event ?hg (N := 2) ?hd (cs := #[.bool false, .bool false, .bool false, .bool false]) (t := 59) ?hr ?_; (case hd => rfl); (case hg => rfl); (case hr => first | (go_simp; done) | (go_simp; rfl)); intro gb126 hg w4 hbox hb; have n0_ := Aside0.mk (IsS133.below (by repeat (first | (with_reducible first | exact HI0.out | apply IsS133.alloc | apply IsS133.drewN | apply IsS133.drew | apply IsS133.set_1) | exact HI0.out)) hb); have n1_ := Aside0.mk (KeepBut.trans (by repeat (first | (with_reducible first | exact HK.out | apply KeepBut.set_ | apply keep_drewN | apply keep_drew | apply keep_alloc) | exact HK.out)) (KeepBut.of_below hb g none) (.inl rfl)); have n2_ := Aside0.mk (below_step (by repeat (first | (with_reducible first | exact HB.out | apply below_alloc | apply pw_below_drewN | apply below_drew1 | refine below_set ?_ (IsS133.ge HI0.out)) | exact HB.out)) hb); have n3_ := Aside0.mk (hbox); have n4_ := Aside0.mk ((by rw [hg]; exact (keep_size (w := w) (g := g) (row := none) (by repeat (first | (with_reducible first | exact HK.out | apply KeepBut.set_ | apply keep_drewN | apply keep_drew | apply keep_alloc) | exact HK.out))) : w.heap.size ≤ gb126)); have n5_ := Aside0.mk ((Nat.le_trans HW0.out (by rw [hg]; exact (keep_size (w := w) (g := g) (row := none) (by repeat (first | (with_reducible first | exact HK.out | apply KeepBut.set_ | apply keep_drewN | apply keep_drew | apply keep_alloc) | exact HK.out))) : w.heap.size ≤ gb126) : w0.heap.size ≤ gb126)); have n6_ := Aside0.mk ((by rw [hg]; exact Nat.ne_of_lt (IsS133.lt (show IsS133 w0 _ g s0_0 s0_1 from by repeat (first | (with_reducible first | exact HI0.out | apply IsS133.alloc | apply IsS133.drewN | apply IsS133.drew | apply IsS133.set_1) | exact HI0.out))) : g ≠ gb126)); have n7_ := Aside0.mk ((by rw [hg]; exact Nat.ne_of_gt (IsS133.lt (show IsS133 w0 _ g s0_0 s0_1 from by repeat (first | (with_reducible first | exact HI0.out | apply IsS133.alloc | apply IsS133.drewN | apply IsS133.drew | apply IsS133.set_1) | exact HI0.out))) : gb126 ≠ g)); clear HI0 HK HB; have HI0 := n0_; have HK := n1_; have HB := n2_; have BK126 := n3_; have GW126 := n4_; have GE126 := n5_; have NB0_126 := n6_; have NB126_0 := n7_; clear n0_ n1_ n2_ n3_ n4_ n5_ n6_ n7_; clear hb hbox hg; have TK1_ := Aside0.mk trivial) | (clear TK1_; (with_reducible refine gate_callee (f := 80) rfl ?_); refine goesL_ (some 4) rfl rfl Tryd.func80 (by kernel_rfl) rfl #[.pointer (some ⟨g, 0, none⟩), .int .i64 16] rfl (by (try simp only [List.map_toArray, List.map_cons, List.map_nil]); first | done | rfl | (simp only [List.length_drop, List.length_take]; rfl)) ?_; (with_reducible refine (spec_l20Rd_pick.calls k g s0_0 s0_1 16 t127 t128 w0 _ ?side1 ?side2 A2.out).mono ?_); (case side1 => repeat (first | (with_reducible first | exact HI0.out | apply IsS133.alloc | apply IsS133.drewN | apply IsS133.drew | apply IsS133.set_1 | refine IsS133.far ?_ NB0_126.out _) | exact HI0.out)); (case side2 => repeat (first | (with_reducible first | exact HB.out | apply below_alloc | apply pw_below_drewN | apply below_drew1 | refine below_set ?_ (IsS133.ge HI0.out) | refine below_set ?_ GE126.out) | exact HB.out)); rintro e w5 ⟨rfl, hi, hb, hk⟩; refine ⟨_, rfl, ?_⟩; have n0_ := Aside0.mk (KeepBut.blk hk (g' := gb126) (o := .cells #[.bool false, .bool false, .bool false, .bool false] 59 (0, 0)) (bk BK126) NB126_0.out (by simp)); have n1_ := Aside0.mk (KeepBut.trans (by repeat (first | (with_reducible first | exact HK.out | apply KeepBut.set_ | apply keep_drewN | apply keep_drew | apply keep_alloc | refine keep_far ?_ GW126.out _) | exact HK.out)) hk (.inl rfl)); have n2_ := Aside0.mk (hb); have n3_ := Aside0.mk (hi); clear BK126 HK HB HI0; have BK126 := n0_; have HK := n1_; have HB := n2_; have HI0 := n3_; clear n0_ n1_ n2_ n3_; (try clear hb); (try clear hb2); (try clear hk); (try clear hi); have TK2_ := Aside0.mk trivial) | (clear TK2_; (with_reducible refine gate_callee (f := 135) rfl ?_); refine goesL_ (some 5) rfl rfl Tryd.func135 (by kernel_rfl) rfl #[.int .i64 t127] rfl (by (try simp only [List.map_toArray, List.map_cons, List.map_nil]); first | done | rfl | (simp only [List.length_drop, List.length_take]; rfl)) ?_; (with_reducible refine (spec_l9Bay.calls t127 t129 t130 t131 t132 _ A3.out).mono ?_); rintro e w6 ⟨rfl, hb⟩; refine ⟨_, rfl, ?_⟩; have n0_ := Aside0.mk (IsS133.below (by repeat (first | (with_reducible first | exact HI0.out | apply IsS133.alloc | apply IsS133.drewN | apply IsS133.drew | apply IsS133.set_1 | refine IsS133.far ?_ NB0_126.out _) | exact HI0.out)) hb); have n1_ := bkB BK126 hb; have n2_ := Aside0.mk (KeepBut.trans (by repeat (first | (with_reducible first | exact HK.out | apply KeepBut.set_ | apply keep_drewN | apply keep_drew | apply keep_alloc | refine keep_far ?_ GW126.out _) | exact HK.out)) (KeepBut.of_below hb g none) (.inl rfl)); have n3_ := Aside0.mk (below_step (by repeat (first | (with_reducible first | exact HB.out | apply below_alloc | apply pw_below_drewN | apply below_drew1 | refine below_set ?_ (IsS133.ge HI0.out) | refine below_set ?_ GE126.out) | exact HB.out)) hb); clear HI0 BK126 HK HB; have HI0 := n0_; have BK126 := n1_; have HK := n2_; have HB := n3_; clear n0_ n1_ n2_ n3_; (try clear hb); (try clear hb2); (try clear hk); (try clear hi); have hnb7 := NB126_0.out; have hnc7 := NB0_126.out; have hcz8_0 : w6.cell? ⟨gb126, 0, none⟩ = some (.bool false) := (blk_cell BK126.out 0).trans rfl; have hcz8_1 : w6.cell? ⟨gb126, 1, none⟩ = some (.bool false) := (blk_cell BK126.out 1).trans rfl; have hcz8_2 : w6.cell? ⟨gb126, 2, none⟩ = some (.bool false) := (blk_cell BK126.out 2).trans rfl; have hcz8_3 : w6.cell? ⟨gb126, 3, none⟩ = some (.bool false) := (blk_cell BK126.out 3).trans rfl; have hfz8_0 := blk_frozen BK126.out 0; have hfz8_1 := blk_frozen BK126.out 1; have hfz8_2 := blk_frozen BK126.out 2; have hfz8_3 := blk_frozen BK126.out 3; have TK3_ := Aside0.mk trivial))
 refine bodyPost_ret (results_cell_row rfl _ _ gb126 59 #[.bool t129, .bool t130, .bool t131, .bool t132] (0, 0) _ rfl (by (with_reducible repeat (first | refine blk_drewN ?_ _ | refine blk_drew ?_ | refine blk_alloc ?_ _)); refine blk_put (cs := #[.bool t129, .bool t130, .bool t131, .bool false]) ?_ 3 _ rfl; (with_reducible repeat (first | refine blk_drewN ?_ _ | refine blk_drew ?_ | refine blk_alloc ?_ _)); refine blk_put (cs := #[.bool t129, .bool t130, .bool false, .bool false]) ?_ 2 _ rfl; (with_reducible repeat (first | refine blk_drewN ?_ _ | refine blk_drew ?_ | refine blk_alloc ?_ _)); refine blk_put (cs := #[.bool t129, .bool false, .bool false, .bool false]) ?_ 1 _ rfl; (with_reducible repeat (first | refine blk_drewN ?_ _ | refine blk_drew ?_ | refine blk_alloc ?_ _)); refine blk_put (cs := #[.bool false, .bool false, .bool false, .bool false]) ?_ 0 _ rfl; (with_reducible repeat (first | refine blk_drewN ?_ _ | refine blk_drew ?_ | refine blk_alloc ?_ _)); exact BK126.out) Tryd.underlying59 rfl (by kernel_rfl)) rfl ?_
 exact ⟨by first | rfl | (simp [errW_none, errW_some] <;> rfl) | (simp [*, errW_none, errW_some] <;> rfl), by repeat (first | (with_reducible first | exact HI0.out | apply IsS133.alloc | apply IsS133.drewN | apply IsS133.drew | apply IsS133.set_1 | refine IsS133.far ?_ NB0_126.out _) | exact HI0.out), by repeat (first | (with_reducible first | exact HB.out | apply below_alloc | apply pw_below_drewN | apply below_drew1 | refine below_set ?_ (IsS133.ge HI0.out) | refine below_set ?_ GE126.out) | exact HB.out), by repeat (first | (with_reducible first | exact HK.out | apply KeepBut.set_ | apply keep_drewN | apply keep_drew | apply keep_alloc | refine keep_far ?_ GW126.out _) | exact HK.out)⟩

/-! ### spec_DrawBaySafe: function 42 -/
def spec_DrawBaySafe.f (k : Nat) (l0 : List Int) : Option (Bool × Bool × Bool × Bool) := (spec_l20Open.f l0).bind fun bt134 => ((spec_l20Bay.f k bt134.1 bt134.2).bind fun bt137 => (some (bt137.1, bt137.2.1, bt137.2.2.1, bt137.2.2.2.1)))
theorem spec_DrawBaySafe.mono : ∀ a0 k, LeO (spec_DrawBaySafe.f k a0) (spec_DrawBaySafe.f (k + 1) a0) := by
 intro a0 k
 unfold spec_DrawBaySafe.f
 repeat' first
   | (with_reducible exact spec_l20Bay.mono _ _ _)
   | (with_reducible exact LeO.refl _)
   | (with_reducible exact LeO.none _)
   | (with_reducible refine LeO.ite ?_ ?_)
   | (with_reducible refine LeO.bind ?_ (fun _ => ?_))
   | exact spec_l20Bay.mono _ _ _
   | exact LeO.none _
   | refine LeO.ite ?_ ?_
   | refine LeO.bind ?_ (fun _ => ?_)
set_option maxHeartbeats 8000000 in
set_option maxRecDepth 100000 in
theorem spec_DrawBaySafe.calls (k : Nat) (A0 : Option Addr) (c0 : Nat) (l0 : List Int) (r1 : Bool) (r2 : Bool) (r3 : Bool) (r4 : Bool) (w : World) (hr0 : Kd.C (Kd.int .u8) w A0 l0.length l0) (hc0 : l0.length ≤ c0) (h : spec_DrawBaySafe.f k l0 = some (r1, r2, r3, r4)) :
  Calls Tryd.prog 42 #[.slice A0 l0.length c0] w fun e w' => e = .returned (.agg #[.bool r1, .bool r2, .bool r3, .bool r4]) ∧ Below w.heap.size w w' := by
 have hu59 := Tryd.underlying59
 have HR0 := Aside0.mk hr0
 have HC0 := Aside0.mk hc0
 clear hr0 hc0
 have HB := Aside0.mk (Below.refl w.heap.size w)
 have H : ((spec_l20Open.f l0).bind fun bt134 => ((spec_l20Bay.f k bt134.1 bt134.2).bind fun bt137 => (some (bt137.1, bt137.2.1, bt137.2.2.1, bt137.2.2.2.1)))) = some (r1, r2, r3, r4) := h
 clear h
 replace H := Option.bind_eq_some_iff.mp H
 obtain ⟨⟨t134, t135⟩, A20, H⟩ := H
 replace H : ((spec_l20Bay.f k t134 t135).bind fun bt137 => (some (bt137.1, bt137.2.1, bt137.2.2.1, bt137.2.2.2.1))) = some (r1, r2, r3, r4) := H
 have A2 := Aside0.mk A20
 clear A20
 replace H := Option.bind_eq_some_iff.mp H
 obtain ⟨⟨t137, t138, t139, t140, t141⟩, A30, H⟩ := H
 replace H : (some (t137, t138, t139, t140)) = some (r1, r2, r3, r4) := H
 have A3 := Aside0.mk A30
 clear A30
 simp only [Option.some.injEq, Prod.mk.injEq] at H
 obtain ⟨rfl, rfl, rfl, rfl⟩ := H
 go_enter Tryd.func42, Tryd.ntmps42
 have TK0_ := Aside0.mk trivial
 go_wp2_with (first | (clear TK0_; (with_reducible refine gate_dst (N := 2) rfl ?_); refine box_event ?hg (N := 2) ?hd (cs := #[.bool false, .bool false, .bool false, .bool false]) (t := 59) ?hr ?_; (case hd => rfl); (case hg => rfl); (case hr => first | (go_simp; done) | (go_simp; rfl)); intro gb133 hg w4 hbox hb; have n0_ := Aside0.mk (below_step bw hb); have n1_ := Aside0.mk (hbox); have n2_ := Aside0.mk ((by rw [hg]; exact (below_size bw) : w.heap.size ≤ gb133)); have n3_ := Aside0.mk ((by rw [hg]; exact (below_size bw) : w.heap.size ≤ gb133)); clear HB; have HB := n0_; have BK133 := n1_; have GW133 := n2_; have GE133 := n3_; clear n0_ n1_ n2_ n3_; clear hb hbox hg; have TK1_ := Aside0.mk trivial) | (clear TK1_; (with_reducible refine gate_callee (f := 68) rfl ?_); refine goesL_ (some 4) rfl rfl Tryd.func68 (by kernel_rfl) rfl #[.slice A0 l0.length c0] rfl (by (try simp only [List.map_toArray, List.map_cons, List.map_nil]); first | done | rfl | (simp only [List.length_drop, List.length_take]; rfl)) ?_; (with_reducible refine (spec_l20Open.calls _ _ l0 t134 t135 w _ ?side1 ?side2 ?side3 A2.out).mono ?_); (case side1 => exact bw); (case side2 => exact HR0.out); (case side3 => exact HC0.out); rintro e w5 ⟨g136, rfl, hi, hb, hb2⟩; refine ⟨_, rfl, ?_⟩; have n0_ := Aside0.mk (blk_below (g := gb133) (o := .cells #[.bool false, .bool false, .bool false, .bool false] 59 (0, 0)) (bk BK133) hb2); have n1_ := Aside0.mk (hb); have n2_ := Aside0.mk (hi); have n3_ := Aside0.mk (IsS133.ne_blk hi (blk_below (g := gb133) (o := .cells #[.bool false, .bool false, .bool false, .bool false] 59 (0, 0)) (bk BK133) hb2) (by decide)); have n4_ := Aside0.mk (Ne.symm (IsS133.ne_blk hi (blk_below (g := gb133) (o := .cells #[.bool false, .bool false, .bool false, .bool false] 59 (0, 0)) (bk BK133) hb2) (by decide))); clear BK133 HB; have BK133 := n0_; have HB := n1_; have HI136 := n2_; have NB136_133 := n3_; have NB133_136 := n4_; clear n0_ n1_ n2_ n3_ n4_; (try clear hb); (try clear hb2); (try clear hk); (try clear hi); have TK2_ := Aside0.mk trivial) | (clear TK2_; (with_reducible refine gate_callee (f := 100) rfl ?_); refine goesL_ (some 5) rfl rfl Tryd.func100 (by kernel_rfl) rfl #[.pointer (some ⟨g136, 0, none⟩)] rfl (by (try simp only [List.map_toArray, List.map_cons, List.map_nil]); first | done | rfl | (simp only [List.length_drop, List.length_take]; rfl)) ?_; (with_reducible refine (spec_l20Bay.calls k g136 t134 t135 t137 t138 t139 t140 t141 w _ ?side1 ?side2 A3.out).mono ?_); (case side1 => repeat (first | (with_reducible first | exact HI136.out | apply IsS133.alloc | apply IsS133.drewN | apply IsS133.drew | apply IsS133.set_1 | refine IsS133.far ?_ NB136_133.out _) | exact HI136.out)); (case side2 => repeat (first | (with_reducible first | exact HB.out | apply below_alloc | apply pw_below_drewN | apply below_drew1 | refine below_set ?_ (IsS133.ge HI136.out) | refine below_set ?_ GE133.out) | exact HB.out)); rintro e w6 ⟨rfl, hi, hb, hk⟩; refine ⟨_, rfl, ?_⟩; have n0_ := Aside0.mk (KeepBut.blk hk (g' := gb133) (o := .cells #[.bool false, .bool false, .bool false, .bool false] 59 (0, 0)) (bk BK133) NB133_136.out (by simp)); have n1_ := Aside0.mk (hb); have n2_ := Aside0.mk (hi); clear BK133 HB HI136; have BK133 := n0_; have HB := n1_; have HI136 := n2_; clear n0_ n1_ n2_; (try clear hb); (try clear hb2); (try clear hk); (try clear hi); have hnb7 := NB133_136.out; have hnc7 := NB136_133.out; have hcz8_0 : w6.cell? ⟨gb133, 0, none⟩ = some (.bool false) := (blk_cell BK133.out 0).trans rfl; have hcz8_1 : w6.cell? ⟨gb133, 1, none⟩ = some (.bool false) := (blk_cell BK133.out 1).trans rfl; have hcz8_2 : w6.cell? ⟨gb133, 2, none⟩ = some (.bool false) := (blk_cell BK133.out 2).trans rfl; have hcz8_3 : w6.cell? ⟨gb133, 3, none⟩ = some (.bool false) := (blk_cell BK133.out 3).trans rfl; have hfz8_0 := blk_frozen BK133.out 0; have hfz8_1 := blk_frozen BK133.out 1; have hfz8_2 := blk_frozen BK133.out 2; have hfz8_3 := blk_frozen BK133.out 3; have TK3_ := Aside0.mk trivial))
 refine bodyPost_ret (results_cell_row rfl _ _ gb133 59 #[.bool t137, .bool t138, .bool t139, .bool t140] (0, 0) _ rfl (by (with_reducible repeat (first | refine blk_drewN ?_ _ | refine blk_drew ?_ | refine blk_alloc ?_ _)); refine blk_put (cs := #[.bool t137, .bool t138, .bool t139, .bool false]) ?_ 3 _ rfl; (with_reducible repeat (first | refine blk_drewN ?_ _ | refine blk_drew ?_ | refine blk_alloc ?_ _)); refine blk_put (cs := #[.bool t137, .bool t138, .bool false, .bool false]) ?_ 2 _ rfl; (with_reducible repeat (first | refine blk_drewN ?_ _ | refine blk_drew ?_ | refine blk_alloc ?_ _)); refine blk_put (cs := #[.bool t137, .bool false, .bool false, .bool false]) ?_ 1 _ rfl; (with_reducible repeat (first | refine blk_drewN ?_ _ | refine blk_drew ?_ | refine blk_alloc ?_ _)); refine blk_put (cs := #[.bool false, .bool false, .bool false, .bool false]) ?_ 0 _ rfl; (with_reducible repeat (first | refine blk_drewN ?_ _ | refine blk_drew ?_ | refine blk_alloc ?_ _)); exact BK133.out) Tryd.underlying59 rfl (by kernel_rfl)) rfl ?_
 exact ⟨by first | rfl | (simp [errW_none, errW_some] <;> rfl) | (simp [*, errW_none, errW_some] <;> rfl), by repeat (first | (with_reducible first | exact HB.out | apply below_alloc | apply pw_below_drewN | apply below_drew1 | refine below_set ?_ (IsS133.ge HI136.out) | refine below_set ?_ GE133.out) | exact HB.out)⟩

/-! ### impl_BaySafe: function 43 -/
def impl_BaySafe.f (a0_0 : Bool) (a0_1 : Bool) (a0_2 : Bool) (a0_3 : Bool) : Option (Bool) := if a0_2 = true then (some (!a0_3)) else (some true)
set_option maxHeartbeats 8000000 in
set_option maxRecDepth 100000 in
theorem impl_BaySafe.calls (a0_0 : Bool) (a0_1 : Bool) (a0_2 : Bool) (a0_3 : Bool) (r : Bool) (w : World) (h : impl_BaySafe.f a0_0 a0_1 a0_2 a0_3 = some r) :
  Calls Tryd.prog 43 #[.agg #[.bool a0_0, .bool a0_1, .bool a0_2, .bool a0_3]] w fun e w' => e = .returned (.bool r) ∧ Below w.heap.size w w' := by
 have hu59 := Tryd.underlying59
 have HB := Aside0.mk (Below.refl w.heap.size w)
 have H : (if a0_2 = true then (some (!a0_3)) else (some true)) = some r := h
 clear h
 by_cases c2 : a0_2 = true
 ·subst c2
  have H1 : (some (!a0_3)) = some r := by rw [if_pos rfl] at H; exact H
  clear H
  have H := H1
  clear H1
  obtain rfl := Option.some.inj H
  go_enter Tryd.func43, Tryd.ntmps43
  go_wp2_with (first | ((with_reducible refine gate_dst (N := 1) rfl ?_); refine box_event ?hg (N := 1) ?hd (cs := #[.bool a0_0, .bool a0_1, .bool true, .bool a0_3]) (t := 59) ?hr ?_; (case hd => rfl); (case hg => rfl); (case hr => first | (go_simp; done) | (go_simp; rfl)); intro gb142 hg w3 hbox hb; have n0_ := Aside0.mk (below_step bw hb); have n1_ := Aside0.mk (hbox); have n2_ := Aside0.mk ((by rw [hg]; exact (below_size bw) : w.heap.size ≤ gb142)); have n3_ := Aside0.mk ((by rw [hg]; exact (below_size bw) : w.heap.size ≤ gb142)); clear HB; have HB := n0_; have BK142 := n1_; have GW142 := n2_; have GE142 := n3_; clear n0_ n1_ n2_ n3_; clear hb hbox hg; have hcz4_0 : w3.cell? ⟨gb142, 0, none⟩ = some (.bool a0_0) := (blk_cell BK142.out 0).trans rfl; have hcz4_1 : w3.cell? ⟨gb142, 1, none⟩ = some (.bool a0_1) := (blk_cell BK142.out 1).trans rfl; have hcz4_2 : w3.cell? ⟨gb142, 2, none⟩ = some (.bool true) := (blk_cell BK142.out 2).trans rfl; have hcz4_3 : w3.cell? ⟨gb142, 3, none⟩ = some (.bool a0_3) := (blk_cell BK142.out 3).trans rfl; have hfz4_0 := blk_frozen BK142.out 0; have hfz4_1 := blk_frozen BK142.out 1; have hfz4_2 := blk_frozen BK142.out 2; have hfz4_3 := blk_frozen BK142.out 3))
  go_ret
  exact ⟨by first | rfl | (simp [errW_none, errW_some] <;> rfl) | (simp [*, errW_none, errW_some] <;> rfl), bw⟩
 ·replace c2 := Bool.eq_false_iff.mpr c2
  subst c2
  have H1 : (some true) = some r := by rw [if_neg (show ¬ (false = true) by decide)] at H; exact H
  clear H
  have H := H1
  clear H1
  obtain rfl := Option.some.inj H
  go_enter Tryd.func43, Tryd.ntmps43
  go_wp2_with (first | ((with_reducible refine gate_dst (N := 1) rfl ?_); refine box_event ?hg (N := 1) ?hd (cs := #[.bool a0_0, .bool a0_1, .bool false, .bool a0_3]) (t := 59) ?hr ?_; (case hd => rfl); (case hg => rfl); (case hr => first | (go_simp; done) | (go_simp; rfl)); intro gb142 hg w5 hbox hb; have n0_ := Aside0.mk (below_step bw hb); have n1_ := Aside0.mk (hbox); have n2_ := Aside0.mk ((by rw [hg]; exact (below_size bw) : w.heap.size ≤ gb142)); have n3_ := Aside0.mk ((by rw [hg]; exact (below_size bw) : w.heap.size ≤ gb142)); clear HB; have HB := n0_; have BK142 := n1_; have GW142 := n2_; have GE142 := n3_; clear n0_ n1_ n2_ n3_; clear hb hbox hg; have hcz6_0 : w5.cell? ⟨gb142, 0, none⟩ = some (.bool a0_0) := (blk_cell BK142.out 0).trans rfl; have hcz6_1 : w5.cell? ⟨gb142, 1, none⟩ = some (.bool a0_1) := (blk_cell BK142.out 1).trans rfl; have hcz6_2 : w5.cell? ⟨gb142, 2, none⟩ = some (.bool false) := (blk_cell BK142.out 2).trans rfl; have hcz6_3 : w5.cell? ⟨gb142, 3, none⟩ = some (.bool a0_3) := (blk_cell BK142.out 3).trans rfl; have hfz6_0 := blk_frozen BK142.out 0; have hfz6_1 := blk_frozen BK142.out 1; have hfz6_2 := blk_frozen BK142.out 2; have hfz6_3 := blk_frozen BK142.out 3))
  go_ret
  exact ⟨by first | rfl | (simp [errW_none, errW_some] <;> rfl) | (simp [*, errW_none, errW_some] <;> rfl), bw⟩

/-! ### spec_BaySafe: function 44 -/
def spec_BaySafe.f (a0_0 : Bool) (a0_1 : Bool) (a0_2 : Bool) (a0_3 : Bool) : Option (Bool) := if a0_2 = true then (some (!a0_3)) else (some true)
set_option maxHeartbeats 8000000 in
set_option maxRecDepth 100000 in
theorem spec_BaySafe.calls (a0_0 : Bool) (a0_1 : Bool) (a0_2 : Bool) (a0_3 : Bool) (r : Bool) (w : World) (h : spec_BaySafe.f a0_0 a0_1 a0_2 a0_3 = some r) :
  Calls Tryd.prog 44 #[.agg #[.bool a0_0, .bool a0_1, .bool a0_2, .bool a0_3]] w fun e w' => e = .returned (.bool r) ∧ Below w.heap.size w w' := by
 have hu59 := Tryd.underlying59
 have HB := Aside0.mk (Below.refl w.heap.size w)
 have H : (if a0_2 = true then (some (!a0_3)) else (some true)) = some r := h
 clear h
 by_cases c2 : a0_2 = true
 ·subst c2
  have H1 : (some (!a0_3)) = some r := by rw [if_pos rfl] at H; exact H
  clear H
  have H := H1
  clear H1
  obtain rfl := Option.some.inj H
  go_enter Tryd.func44, Tryd.ntmps44
  go_wp2_with (first | ((with_reducible refine gate_dst (N := 1) rfl ?_); refine box_event ?hg (N := 1) ?hd (cs := #[.bool a0_0, .bool a0_1, .bool true, .bool a0_3]) (t := 59) ?hr ?_; (case hd => rfl); (case hg => rfl); (case hr => first | (go_simp; done) | (go_simp; rfl)); intro gb143 hg w3 hbox hb; have n0_ := Aside0.mk (below_step bw hb); have n1_ := Aside0.mk (hbox); have n2_ := Aside0.mk ((by rw [hg]; exact (below_size bw) : w.heap.size ≤ gb143)); have n3_ := Aside0.mk ((by rw [hg]; exact (below_size bw) : w.heap.size ≤ gb143)); clear HB; have HB := n0_; have BK143 := n1_; have GW143 := n2_; have GE143 := n3_; clear n0_ n1_ n2_ n3_; clear hb hbox hg; have hcz4_0 : w3.cell? ⟨gb143, 0, none⟩ = some (.bool a0_0) := (blk_cell BK143.out 0).trans rfl; have hcz4_1 : w3.cell? ⟨gb143, 1, none⟩ = some (.bool a0_1) := (blk_cell BK143.out 1).trans rfl; have hcz4_2 : w3.cell? ⟨gb143, 2, none⟩ = some (.bool true) := (blk_cell BK143.out 2).trans rfl; have hcz4_3 : w3.cell? ⟨gb143, 3, none⟩ = some (.bool a0_3) := (blk_cell BK143.out 3).trans rfl; have hfz4_0 := blk_frozen BK143.out 0; have hfz4_1 := blk_frozen BK143.out 1; have hfz4_2 := blk_frozen BK143.out 2; have hfz4_3 := blk_frozen BK143.out 3))
  go_ret
  exact ⟨by first | rfl | (simp [errW_none, errW_some] <;> rfl) | (simp [*, errW_none, errW_some] <;> rfl), bw⟩
 ·replace c2 := Bool.eq_false_iff.mpr c2
  subst c2
  have H1 : (some true) = some r := by rw [if_neg (show ¬ (false = true) by decide)] at H; exact H
  clear H
  have H := H1
  clear H1
  obtain rfl := Option.some.inj H
  go_enter Tryd.func44, Tryd.ntmps44
  go_wp2_with (first | ((with_reducible refine gate_dst (N := 1) rfl ?_); refine box_event ?hg (N := 1) ?hd (cs := #[.bool a0_0, .bool a0_1, .bool false, .bool a0_3]) (t := 59) ?hr ?_; (case hd => rfl); (case hg => rfl); (case hr => first | (go_simp; done) | (go_simp; rfl)); intro gb143 hg w5 hbox hb; have n0_ := Aside0.mk (below_step bw hb); have n1_ := Aside0.mk (hbox); have n2_ := Aside0.mk ((by rw [hg]; exact (below_size bw) : w.heap.size ≤ gb143)); have n3_ := Aside0.mk ((by rw [hg]; exact (below_size bw) : w.heap.size ≤ gb143)); clear HB; have HB := n0_; have BK143 := n1_; have GW143 := n2_; have GE143 := n3_; clear n0_ n1_ n2_ n3_; clear hb hbox hg; have hcz6_0 : w5.cell? ⟨gb143, 0, none⟩ = some (.bool a0_0) := (blk_cell BK143.out 0).trans rfl; have hcz6_1 : w5.cell? ⟨gb143, 1, none⟩ = some (.bool a0_1) := (blk_cell BK143.out 1).trans rfl; have hcz6_2 : w5.cell? ⟨gb143, 2, none⟩ = some (.bool false) := (blk_cell BK143.out 2).trans rfl; have hcz6_3 : w5.cell? ⟨gb143, 3, none⟩ = some (.bool a0_3) := (blk_cell BK143.out 3).trans rfl; have hfz6_0 := blk_frozen BK143.out 0; have hfz6_1 := blk_frozen BK143.out 1; have hfz6_2 := blk_frozen BK143.out 2; have hfz6_3 := blk_frozen BK143.out 3))
  go_ret
  exact ⟨by first | rfl | (simp [errW_none, errW_some] <;> rfl) | (simp [*, errW_none, errW_some] <;> rfl), bw⟩

-- NOT PRINTED: function 7 (laws_FnBaySafe)

/-! ### spec_l20Rd_odd: function 130 -/
def spec_l20Rd_odd.f (k : Nat) (s0_0 : List Int) (s0_1 : Int) (a1 : Int) : Option (Bool × Int) := if a1 > 0 then ((spec_l20Rd_pick.f k s0_0 s0_1 a1).bind fun bt144 => (some ((bt144.1 == (wrap64 (a1 - 1))), bt144.2))) else (some (false, s0_1))
theorem spec_l20Rd_odd.mono : ∀ a0 a1 a2 k, LeO (spec_l20Rd_odd.f k a0 a1 a2) (spec_l20Rd_odd.f (k + 1) a0 a1 a2) := by
 intro a0 a1 a2 k
 unfold spec_l20Rd_odd.f
 repeat' first
   | (with_reducible exact spec_l20Rd_pick.mono _ _ _ _)
   | (with_reducible exact LeO.refl _)
   | (with_reducible exact LeO.none _)
   | (with_reducible refine LeO.ite ?_ ?_)
   | (with_reducible refine LeO.bind ?_ (fun _ => ?_))
   | exact spec_l20Rd_pick.mono _ _ _ _
   | exact LeO.none _
   | refine LeO.ite ?_ ?_
   | refine LeO.bind ?_ (fun _ => ?_)
set_option maxHeartbeats 8000000 in
set_option maxRecDepth 100000 in
theorem spec_l20Rd_odd.calls (k : Nat) (g : Nat) (s0_0 : List Int) (s0_1 : Int) (a1 : Int) (r1 : Bool) (r2 : Int) (w0 w : World) (hI : IsS133 w0 w g s0_0 s0_1) (hB : Below w0.heap.size w0 w) (h : spec_l20Rd_odd.f k s0_0 s0_1 a1 = some (r1, r2)) :
  Calls Tryd.prog 130 #[.pointer (some ⟨g, 0, none⟩), .int .i64 a1] w fun e w' => e = .returned (.bool r1) ∧ IsS133 w0 w' g s0_0 r2 ∧ Below w0.heap.size w0 w' ∧ KeepBut w w' g none := by
 have HI0 := Aside0.mk hI
 have HK := Aside0.mk (KeepBut.refl w g none)
 have HL := Aside0.mk hB.size
 clear hI
 have HW0 := Aside0.mk hB.size
 have HB := Aside0.mk hB
 clear hB
 have H : (if a1 > 0 then ((spec_l20Rd_pick.f k s0_0 s0_1 a1).bind fun bt144 => (some ((bt144.1 == (wrap64 (a1 - 1))), bt144.2))) else (some (false, s0_1))) = some (r1, r2) := h
 clear h
 by_cases c3 : a1 > 0
 ·rw [if_pos c3] at H
  have c3b0 : decide (0 < a1) = true := decide_eq_true c3
  clear c3
  replace H := Option.bind_eq_some_iff.mp H
  obtain ⟨⟨t144, t145⟩, A40, H⟩ := H
  replace H : (some ((t144 == (wrap64 (a1 - 1))), t145)) = some (r1, r2) := H
  have A4 := Aside0.mk A40
  clear A40
  simp only [Option.some.injEq, Prod.mk.injEq] at H
  obtain ⟨rfl, rfl⟩ := H
  go_enter Tryd.func130, Tryd.ntmps130
  go_wp2_with (first | (go_at_call 80; (with_reducible refine (spec_l20Rd_pick.calls k g s0_0 s0_1 a1 t144 t145 w0 _ ?side1 ?side2 A4.out).mono ?_); (case side1 => repeat (first | (with_reducible first | exact HI0.out | apply IsS133.alloc | apply IsS133.drewN | apply IsS133.drew | apply IsS133.set_1) | exact HI0.out)); (case side2 => repeat (first | (with_reducible first | exact HB.out | apply below_alloc | apply pw_below_drewN | apply below_drew1 | refine below_set ?_ (IsS133.ge HI0.out)) | exact HB.out)); rintro e w5 ⟨rfl, hi, hb, hk⟩; have n0_ := Aside0.mk (KeepBut.trans (by repeat (first | (with_reducible first | exact HK.out | apply KeepBut.set_ | apply keep_drewN | apply keep_drew | apply keep_alloc) | exact HK.out)) hk (.inl rfl)); have n1_ := Aside0.mk (hb); have n2_ := Aside0.mk (hi); clear HK HB HI0; have HK := n0_; have HB := n1_; have HI0 := n2_; clear n0_ n1_ n2_; (try clear hb); (try clear hb2); (try clear hk); (try clear hi)))
  go_ret
  exact ⟨by first | rfl | (simp [errW_none, errW_some] <;> rfl) | (simp [*, errW_none, errW_some] <;> rfl), by repeat (first | (with_reducible first | exact HI0.out | apply IsS133.alloc | apply IsS133.drewN | apply IsS133.drew | apply IsS133.set_1) | exact HI0.out), by repeat (first | (with_reducible first | exact HB.out | apply below_alloc | apply pw_below_drewN | apply below_drew1 | refine below_set ?_ (IsS133.ge HI0.out)) | exact HB.out), by repeat (first | (with_reducible first | exact HK.out | apply KeepBut.set_ | apply keep_drewN | apply keep_drew | apply keep_alloc) | exact HK.out)⟩
 ·rw [if_neg c3] at H
  have c3b0 : decide (0 < a1) = false := decide_eq_false c3
  clear c3
  simp only [Option.some.injEq, Prod.mk.injEq] at H
  obtain ⟨rfl, rfl⟩ := H
  go_enter Tryd.func130, Tryd.ntmps130
  go_wp2
  go_ret
  exact ⟨by first | rfl | (simp [errW_none, errW_some] <;> rfl) | (simp [*, errW_none, errW_some] <;> rfl), by repeat (first | (with_reducible first | exact HI0.out | apply IsS133.alloc | apply IsS133.drewN | apply IsS133.drew | apply IsS133.set_1) | exact HI0.out), by repeat (first | (with_reducible first | exact HB.out | apply below_alloc | apply pw_below_drewN | apply below_drew1 | refine below_set ?_ (IsS133.ge HI0.out)) | exact HB.out), by repeat (first | (with_reducible first | exact HK.out | apply KeepBut.set_ | apply keep_drewN | apply keep_drew | apply keep_alloc) | exact HK.out)⟩

/-! ### spec_l20Relay: function 101 -/
def spec_l20Relay.f (k : Nat) (s0_0 : List Int) (s0_1 : Int) (a1 : Int) : Option (Int × Int × Int) := (spec_l20Rd_pick.f k s0_0 s0_1 120).bind fun bt147 => ((spec_l20Rd_pick.f k s0_0 bt147.2 60).bind fun bt149 => ((spec_l20Rd_odd.f k s0_0 bt149.2 a1).bind fun bt152 => (if bt152.1 = true then ((spec_l20Rd_pick.f k s0_0 bt152.2 2).bind fun bt154 => (if bt154.1 = 0 then ((some (([0, 401] : List Int) : List Int)).bind fun y156 => ((spec_l20Rd_pick.f k s0_0 bt154.2 2).bind fun bt159 => (if 0 ≤ bt159.1 then (if bt159.1 < (y156.length : Int) then (some (rd y156 bt159.1, wrap64 (1 + bt149.1), bt159.2)) else (none)) else (none)))) else ((some (([0, 61] : List Int) : List Int)).bind fun y162 => ((spec_l20Rd_pick.f k s0_0 bt154.2 2).bind fun bt165 => (if 0 ≤ bt165.1 then (if bt165.1 < (y162.length : Int) then (some (wrap64 (1 + bt147.1), rd y162 bt165.1, bt165.2)) else (none)) else (none)))))) else (some (wrap64 (1 + bt147.1), wrap64 (1 + bt149.1), bt152.2)))))
theorem spec_l20Relay.mono : ∀ a0 a1 a2 k, LeO (spec_l20Relay.f k a0 a1 a2) (spec_l20Relay.f (k + 1) a0 a1 a2) := by
 intro a0 a1 a2 k
 unfold spec_l20Relay.f
 repeat' first
   | (with_reducible exact spec_l20Rd_odd.mono _ _ _ _)
   | (with_reducible exact spec_l20Rd_pick.mono _ _ _ _)
   | (with_reducible exact LeO.refl _)
   | (with_reducible exact LeO.none _)
   | (with_reducible refine LeO.ite ?_ ?_)
   | (with_reducible refine LeO.bind ?_ (fun _ => ?_))
   | exact spec_l20Rd_odd.mono _ _ _ _
   | exact spec_l20Rd_pick.mono _ _ _ _
   | exact LeO.none _
   | refine LeO.ite ?_ ?_
   | refine LeO.bind ?_ (fun _ => ?_)
set_option maxHeartbeats 8000000 in
set_option maxRecDepth 100000 in
theorem spec_l20Relay.calls (k : Nat) (g : Nat) (s0_0 : List Int) (s0_1 : Int) (a1 : Int) (r1 : Int) (r2 : Int) (r3 : Int) (w0 w : World) (hI : IsS133 w0 w g s0_0 s0_1) (hB : Below w0.heap.size w0 w) (h : spec_l20Relay.f k s0_0 s0_1 a1 = some (r1, r2, r3)) :
  Calls Tryd.prog 101 #[.pointer (some ⟨g, 0, none⟩), .int .i64 a1] w fun e w' => e = .returned (.agg #[.int .i64 r1, .int .i64 r2]) ∧ IsS133 w0 w' g s0_0 r3 ∧ Below w0.heap.size w0 w' ∧ KeepBut w w' g none := by
 have hu63 := Tryd.underlying63
 have HI0 := Aside0.mk hI
 have HK := Aside0.mk (KeepBut.refl w g none)
 have HL := Aside0.mk hB.size
 clear hI
 have HW0 := Aside0.mk hB.size
 have HB := Aside0.mk hB
 clear hB
 have H : ((spec_l20Rd_pick.f k s0_0 s0_1 120).bind fun bt147 => ((spec_l20Rd_pick.f k s0_0 bt147.2 60).bind fun bt149 => ((spec_l20Rd_odd.f k s0_0 bt149.2 a1).bind fun bt152 => (if bt152.1 = true then ((spec_l20Rd_pick.f k s0_0 bt152.2 2).bind fun bt154 => (if bt154.1 = 0 then ((some (([0, 401] : List Int) : List Int)).bind fun y156 => ((spec_l20Rd_pick.f k s0_0 bt154.2 2).bind fun bt159 => (if 0 ≤ bt159.1 then (if bt159.1 < (y156.length : Int) then (some (rd y156 bt159.1, wrap64 (1 + bt149.1), bt159.2)) else (none)) else (none)))) else ((some (([0, 61] : List Int) : List Int)).bind fun y162 => ((spec_l20Rd_pick.f k s0_0 bt154.2 2).bind fun bt165 => (if 0 ≤ bt165.1 then (if bt165.1 < (y162.length : Int) then (some (wrap64 (1 + bt147.1), rd y162 bt165.1, bt165.2)) else (none)) else (none)))))) else (some (wrap64 (1 + bt147.1), wrap64 (1 + bt149.1), bt152.2)))))) = some (r1, r2, r3) := h
 clear h
 replace H := Option.bind_eq_some_iff.mp H
 obtain ⟨⟨t147, t148⟩, A30, H⟩ := H
 replace H : ((spec_l20Rd_pick.f k s0_0 t148 60).bind fun bt149 => ((spec_l20Rd_odd.f k s0_0 bt149.2 a1).bind fun bt152 => (if bt152.1 = true then ((spec_l20Rd_pick.f k s0_0 bt152.2 2).bind fun bt154 => (if bt154.1 = 0 then ((some (([0, 401] : List Int) : List Int)).bind fun y156 => ((spec_l20Rd_pick.f k s0_0 bt154.2 2).bind fun bt159 => (if 0 ≤ bt159.1 then (if bt159.1 < (y156.length : Int) then (some (rd y156 bt159.1, wrap64 (1 + bt149.1), bt159.2)) else (none)) else (none)))) else ((some (([0, 61] : List Int) : List Int)).bind fun y162 => ((spec_l20Rd_pick.f k s0_0 bt154.2 2).bind fun bt165 => (if 0 ≤ bt165.1 then (if bt165.1 < (y162.length : Int) then (some (wrap64 (1 + t147), rd y162 bt165.1, bt165.2)) else (none)) else (none)))))) else (some (wrap64 (1 + t147), wrap64 (1 + bt149.1), bt152.2))))) = some (r1, r2, r3) := H
 have A3 := Aside0.mk A30
 clear A30
 replace H := Option.bind_eq_some_iff.mp H
 obtain ⟨⟨t149, t150⟩, A40, H⟩ := H
 replace H : ((spec_l20Rd_odd.f k s0_0 t150 a1).bind fun bt152 => (if bt152.1 = true then ((spec_l20Rd_pick.f k s0_0 bt152.2 2).bind fun bt154 => (if bt154.1 = 0 then ((some (([0, 401] : List Int) : List Int)).bind fun y156 => ((spec_l20Rd_pick.f k s0_0 bt154.2 2).bind fun bt159 => (if 0 ≤ bt159.1 then (if bt159.1 < (y156.length : Int) then (some (rd y156 bt159.1, wrap64 (1 + t149), bt159.2)) else (none)) else (none)))) else ((some (([0, 61] : List Int) : List Int)).bind fun y162 => ((spec_l20Rd_pick.f k s0_0 bt154.2 2).bind fun bt165 => (if 0 ≤ bt165.1 then (if bt165.1 < (y162.length : Int) then (some (wrap64 (1 + t147), rd y162 bt165.1, bt165.2)) else (none)) else (none)))))) else (some (wrap64 (1 + t147), wrap64 (1 + t149), bt152.2)))) = some (r1, r2, r3) := H
 have A4 := Aside0.mk A40
 clear A40
 replace H := Option.bind_eq_some_iff.mp H
 obtain ⟨⟨t152, t153⟩, A50, H⟩ := H
 replace H : (if t152 = true then ((spec_l20Rd_pick.f k s0_0 t153 2).bind fun bt154 => (if bt154.1 = 0 then ((some (([0, 401] : List Int) : List Int)).bind fun y156 => ((spec_l20Rd_pick.f k s0_0 bt154.2 2).bind fun bt159 => (if 0 ≤ bt159.1 then (if bt159.1 < (y156.length : Int) then (some (rd y156 bt159.1, wrap64 (1 + t149), bt159.2)) else (none)) else (none)))) else ((some (([0, 61] : List Int) : List Int)).bind fun y162 => ((spec_l20Rd_pick.f k s0_0 bt154.2 2).bind fun bt165 => (if 0 ≤ bt165.1 then (if bt165.1 < (y162.length : Int) then (some (wrap64 (1 + t147), rd y162 bt165.1, bt165.2)) else (none)) else (none)))))) else (some (wrap64 (1 + t147), wrap64 (1 + t149), t153))) = some (r1, r2, r3) := H
 have A5 := Aside0.mk A50
 clear A50
 by_cases c6 : t152 = true
 ·subst c6
  have H1 : ((spec_l20Rd_pick.f k s0_0 t153 2).bind fun bt154 => (if bt154.1 = 0 then ((some (([0, 401] : List Int) : List Int)).bind fun y156 => ((spec_l20Rd_pick.f k s0_0 bt154.2 2).bind fun bt159 => (if 0 ≤ bt159.1 then (if bt159.1 < (y156.length : Int) then (some (rd y156 bt159.1, wrap64 (1 + t149), bt159.2)) else (none)) else (none)))) else ((some (([0, 61] : List Int) : List Int)).bind fun y162 => ((spec_l20Rd_pick.f k s0_0 bt154.2 2).bind fun bt165 => (if 0 ≤ bt165.1 then (if bt165.1 < (y162.length : Int) then (some (wrap64 (1 + t147), rd y162 bt165.1, bt165.2)) else (none)) else (none)))))) = some (r1, r2, r3) := by rw [if_pos rfl] at H; exact H
  clear H
  have H := H1
  clear H1
  replace H := Option.bind_eq_some_iff.mp H
  obtain ⟨⟨t154, t155⟩, A70, H⟩ := H
  replace H : (if t154 = 0 then ((some (([0, 401] : List Int) : List Int)).bind fun y156 => ((spec_l20Rd_pick.f k s0_0 t155 2).bind fun bt159 => (if 0 ≤ bt159.1 then (if bt159.1 < (y156.length : Int) then (some (rd y156 bt159.1, wrap64 (1 + t149), bt159.2)) else (none)) else (none)))) else ((some (([0, 61] : List Int) : List Int)).bind fun y162 => ((spec_l20Rd_pick.f k s0_0 t155 2).bind fun bt165 => (if 0 ≤ bt165.1 then (if bt165.1 < (y162.length : Int) then (some (wrap64 (1 + t147), rd y162 bt165.1, bt165.2)) else (none)) else (none))))) = some (r1, r2, r3) := H
  have A7 := Aside0.mk A70
  clear A70
  by_cases c8 : t154 = 0
  ·rw [if_pos c8] at H
   have c8b0 : (t154 == 0) = true := beq_iff_eq.mpr c8
   have c8b1 : (t154 != 0) = false := bne_eq_false_iff_eq.mpr c8
   clear c8
   obtain ⟨y156, hy156⟩ : ∃ y_ : List Int, y_ = (([0, 401] : List Int)) := ⟨_, rfl⟩
   replace H : ((spec_l20Rd_pick.f k s0_0 t155 2).bind fun bt159 => (if 0 ≤ bt159.1 then (if bt159.1 < (y156.length : Int) then (some (rd y156 bt159.1, wrap64 (1 + t149), bt159.2)) else (none)) else (none))) = some (r1, r2, r3) := by first | (rw [hy156]; with_reducible exact H) | (have H2_ := (Option.bind_some _ _).symm.trans H; rw [hy156]; with_reducible exact H2_) | (have H2_ := (Option.bind_some _ _).symm.trans H; with_reducible exact H2_) | with_reducible exact H | (rw [hy156]; exact H) | exact H
   have Ny156 := Aside0.mk hy156
   clear hy156
   replace H := Option.bind_eq_some_iff.mp H
   obtain ⟨⟨t159, t160⟩, A90, H⟩ := H
   replace H : (if 0 ≤ t159 then (if t159 < (y156.length : Int) then (some (rd y156 t159, wrap64 (1 + t149), t160)) else (none)) else (none)) = some (r1, r2, r3) := H
   have A9 := Aside0.mk A90
   clear A90
   by_cases c10 : 0 ≤ t159
   ·rw [if_pos c10] at H
    have c10b0 : decide (0 ≤ t159) = true := decide_eq_true c10
    clear c10
    by_cases c11 : t159 < (y156.length : Int)
    ·rw [if_pos c11] at H
     have c11b0 : decide (t159 < (y156.length : Int)) = true := decide_eq_true c11
     clear c11
     simp only [Option.some.injEq, Prod.mk.injEq] at H
     obtain ⟨rfl, rfl, rfl⟩ := H
     go_enter Tryd.func101, Tryd.ntmps101
     have TK0_ := Aside0.mk trivial
     go_wp2_with (first | (clear TK0_; (with_reducible refine gate_dst (N := 4) rfl ?_); refine box_event ?hg (N := 4) ?hd (cs := #[.int .i64 0, .int .i64 0]) (t := 63) ?hr ?_; (case hd => rfl); (case hg => rfl); (case hr => first | (go_simp; done) | (go_simp; rfl)); intro gb146 hg w12 hbox hb; have n0_ := Aside0.mk (IsS133.below (by repeat (first | (with_reducible first | exact HI0.out | apply IsS133.alloc | apply IsS133.drewN | apply IsS133.drew | apply IsS133.set_1) | exact HI0.out)) hb); have n1_ := Aside0.mk (KeepBut.trans (by repeat (first | (with_reducible first | exact HK.out | apply KeepBut.set_ | apply keep_drewN | apply keep_drew | apply keep_alloc) | exact HK.out)) (KeepBut.of_below hb g none) (.inl rfl)); have n2_ := Aside0.mk (below_step (by repeat (first | (with_reducible first | exact HB.out | apply below_alloc | apply pw_below_drewN | apply below_drew1 | refine below_set ?_ (IsS133.ge HI0.out)) | exact HB.out)) hb); have n3_ := Aside0.mk (hbox); have n4_ := Aside0.mk ((by rw [hg]; exact (keep_size (w := w) (g := g) (row := none) (by repeat (first | (with_reducible first | exact HK.out | apply KeepBut.set_ | apply keep_drewN | apply keep_drew | apply keep_alloc) | exact HK.out))) : w.heap.size ≤ gb146)); have n5_ := Aside0.mk ((Nat.le_trans HW0.out (by rw [hg]; exact (keep_size (w := w) (g := g) (row := none) (by repeat (first | (with_reducible first | exact HK.out | apply KeepBut.set_ | apply keep_drewN | apply keep_drew | apply keep_alloc) | exact HK.out))) : w.heap.size ≤ gb146) : w0.heap.size ≤ gb146)); have n6_ := Aside0.mk ((by rw [hg]; exact Nat.ne_of_lt (IsS133.lt (show IsS133 w0 _ g s0_0 s0_1 from by repeat (first | (with_reducible first | exact HI0.out | apply IsS133.alloc | apply IsS133.drewN | apply IsS133.drew | apply IsS133.set_1) | exact HI0.out))) : g ≠ gb146)); have n7_ := Aside0.mk ((by rw [hg]; exact Nat.ne_of_gt (IsS133.lt (show IsS133 w0 _ g s0_0 s0_1 from by repeat (first | (with_reducible first | exact HI0.out | apply IsS133.alloc | apply IsS133.drewN | apply IsS133.drew | apply IsS133.set_1) | exact HI0.out))) : gb146 ≠ g)); clear HI0 HK HB; have HI0 := n0_; have HK := n1_; have HB := n2_; have BK146 := n3_; have GW146 := n4_; have GE146 := n5_; have NB0_146 := n6_; have NB146_0 := n7_; clear n0_ n1_ n2_ n3_ n4_ n5_ n6_ n7_; clear hb hbox hg; have TK1_ := Aside0.mk trivial) | (clear TK1_; (with_reducible refine gate_callee (f := 80) rfl ?_); refine goesL_ (some 7) rfl rfl Tryd.func80 (by kernel_rfl) rfl #[.pointer (some ⟨g, 0, none⟩), .int .i64 120] rfl (by (try simp only [List.map_toArray, List.map_cons, List.map_nil]); first | done | rfl | (simp only [List.length_drop, List.length_take]; rfl)) ?_; (with_reducible refine (spec_l20Rd_pick.calls k g s0_0 s0_1 120 t147 t148 w0 _ ?side1 ?side2 A3.out).mono ?_); (case side1 => repeat (first | (with_reducible first | exact HI0.out | apply IsS133.alloc | apply IsS133.drewN | apply IsS133.drew | apply IsS133.set_1 | refine IsS133.far ?_ NB0_146.out _) | exact HI0.out)); (case side2 => repeat (first | (with_reducible first | exact HB.out | apply below_alloc | apply pw_below_drewN | apply below_drew1 | refine below_set ?_ (IsS133.ge HI0.out) | refine below_set ?_ GE146.out) | exact HB.out)); rintro e w13 ⟨rfl, hi, hb, hk⟩; refine ⟨_, rfl, ?_⟩; have n0_ := Aside0.mk (KeepBut.blk hk (g' := gb146) (o := .cells #[.int .i64 0, .int .i64 0] 63 (0, 0)) (bk BK146) NB146_0.out (by simp)); have n1_ := Aside0.mk (KeepBut.trans (by repeat (first | (with_reducible first | exact HK.out | apply KeepBut.set_ | apply keep_drewN | apply keep_drew | apply keep_alloc | refine keep_far ?_ GW146.out _) | exact HK.out)) hk (.inl rfl)); have n2_ := Aside0.mk (hb); have n3_ := Aside0.mk (hi); clear BK146 HK HB HI0; have BK146 := n0_; have HK := n1_; have HB := n2_; have HI0 := n3_; clear n0_ n1_ n2_ n3_; (try clear hb); (try clear hb2); (try clear hk); (try clear hi); have TK2_ := Aside0.mk trivial) | (clear TK2_; (with_reducible refine gate_callee (f := 80) rfl ?_); refine goesL_ (some 10) rfl rfl Tryd.func80 (by kernel_rfl) rfl #[.pointer (some ⟨g, 0, none⟩), .int .i64 60] rfl (by (try simp only [List.map_toArray, List.map_cons, List.map_nil]); first | done | rfl | (simp only [List.length_drop, List.length_take]; rfl)) ?_; (with_reducible refine (spec_l20Rd_pick.calls k g s0_0 t148 60 t149 t150 w0 _ ?side1 ?side2 A4.out).mono ?_); (case side1 => repeat (first | (with_reducible first | exact HI0.out | apply IsS133.alloc | apply IsS133.drewN | apply IsS133.drew | apply IsS133.set_1 | refine IsS133.far ?_ NB0_146.out _) | exact HI0.out)); (case side2 => repeat (first | (with_reducible first | exact HB.out | apply below_alloc | apply pw_below_drewN | apply below_drew1 | refine below_set ?_ (IsS133.ge HI0.out) | refine below_set ?_ GE146.out) | exact HB.out)); rintro e w14 ⟨rfl, hi, hb, hk⟩; refine ⟨_, rfl, ?_⟩; have n0_ := Aside0.mk (KeepBut.blk hk (g' := gb146) (o := .cells #[.int .i64 0, .int .i64 0] 63 (0, 0)) (bk BK146) NB146_0.out (by simp)); have n1_ := Aside0.mk (KeepBut.trans (by repeat (first | (with_reducible first | exact HK.out | apply KeepBut.set_ | apply keep_drewN | apply keep_drew | apply keep_alloc | refine keep_far ?_ GW146.out _) | exact HK.out)) hk (.inl rfl)); have n2_ := Aside0.mk (hb); have n3_ := Aside0.mk (hi); clear BK146 HK HB HI0; have BK146 := n0_; have HK := n1_; have HB := n2_; have HI0 := n3_; clear n0_ n1_ n2_ n3_; (try clear hb); (try clear hb2); (try clear hk); (try clear hi); have TK3_ := Aside0.mk trivial) | (clear TK3_; (with_reducible refine gate_dst (N := 5) rfl ?_); refine box_event ?hg (N := 5) ?hd (cs := #[.int .i64 0, .int .i64 0]) (t := 63) ?hr ?_; (case hd => rfl); (case hg => rfl); (case hr => first | (go_simp; done) | (go_simp; rfl)); intro gb151 hg w15 hbox hb; have n0_ := Aside0.mk (IsS133.below (by repeat (first | (with_reducible first | exact HI0.out | apply IsS133.alloc | apply IsS133.drewN | apply IsS133.drew | apply IsS133.set_1 | refine IsS133.far ?_ NB0_146.out _) | exact HI0.out)) hb); have n1_ := bkB BK146 hb; have n2_ := Aside0.mk (KeepBut.trans (by repeat (first | (with_reducible first | exact HK.out | apply KeepBut.set_ | apply keep_drewN | apply keep_drew | apply keep_alloc | refine keep_far ?_ GW146.out _) | exact HK.out)) (KeepBut.of_below hb g none) (.inl rfl)); have n3_ := Aside0.mk (below_step (by repeat (first | (with_reducible first | exact HB.out | apply below_alloc | apply pw_below_drewN | apply below_drew1 | refine below_set ?_ (IsS133.ge HI0.out) | refine below_set ?_ GE146.out) | exact HB.out)) hb); have n4_ := Aside0.mk (hbox); have n5_ := Aside0.mk ((by rw [hg]; exact (keep_size (w := w) (g := g) (row := none) (by repeat (first | (with_reducible first | exact HK.out | apply KeepBut.set_ | apply keep_drewN | apply keep_drew | apply keep_alloc | refine keep_far ?_ GW146.out _) | exact HK.out))) : w.heap.size ≤ gb151)); have n6_ := Aside0.mk ((Nat.le_trans HW0.out (by rw [hg]; exact (keep_size (w := w) (g := g) (row := none) (by repeat (first | (with_reducible first | exact HK.out | apply KeepBut.set_ | apply keep_drewN | apply keep_drew | apply keep_alloc | refine keep_far ?_ GW146.out _) | exact HK.out))) : w.heap.size ≤ gb151) : w0.heap.size ≤ gb151)); have n7_ := Aside0.mk ((by rw [hg]; exact Nat.ne_of_lt (blk_lt (g := gb146) (o := .cells #[.int .i64 0, .int .i64 0] 63 (0, 0)) (bk BK146)) : gb146 ≠ gb151)); have n8_ := Aside0.mk ((by rw [hg]; exact Nat.ne_of_gt (blk_lt (g := gb146) (o := .cells #[.int .i64 0, .int .i64 0] 63 (0, 0)) (bk BK146)) : gb151 ≠ gb146)); have n9_ := Aside0.mk ((by rw [hg]; exact Nat.ne_of_lt (IsS133.lt (show IsS133 w0 _ g s0_0 t150 from by repeat (first | (with_reducible first | exact HI0.out | apply IsS133.alloc | apply IsS133.drewN | apply IsS133.drew | apply IsS133.set_1 | refine IsS133.far ?_ NB0_146.out _) | exact HI0.out))) : g ≠ gb151)); have n10_ := Aside0.mk ((by rw [hg]; exact Nat.ne_of_gt (IsS133.lt (show IsS133 w0 _ g s0_0 t150 from by repeat (first | (with_reducible first | exact HI0.out | apply IsS133.alloc | apply IsS133.drewN | apply IsS133.drew | apply IsS133.set_1 | refine IsS133.far ?_ NB0_146.out _) | exact HI0.out))) : gb151 ≠ g)); clear HI0 BK146 HK HB; have HI0 := n0_; have BK146 := n1_; have HK := n2_; have HB := n3_; have BK151 := n4_; have GW151 := n5_; have GE151 := n6_; have NB146_151 := n7_; have NB151_146 := n8_; have NB0_151 := n9_; have NB151_0 := n10_; clear n0_ n1_ n2_ n3_ n4_ n5_ n6_ n7_ n8_ n9_ n10_; clear hb hbox hg; have hnb16 := NB151_146.out; have hnc16 := NB146_151.out; have hnb17 := NB151_0.out; have hnc17 := NB0_151.out; have hcz18_0 : w15.cell? ⟨gb151, 0, none⟩ = some (.int .i64 0) := (blk_cell BK151.out 0).trans rfl; have hcz18_1 : w15.cell? ⟨gb151, 1, none⟩ = some (.int .i64 0) := (blk_cell BK151.out 1).trans rfl; have hfz18_0 := blk_frozen BK151.out 0; have hfz18_1 := blk_frozen BK151.out 1; have TK4_ := Aside0.mk trivial) | (clear TK4_; (with_reducible refine gate_callee (f := 130) rfl ?_); refine goesL_ (some 15) rfl rfl Tryd.func130 (by kernel_rfl) rfl #[.pointer (some ⟨g, 0, none⟩), .int .i64 a1] rfl (by (try simp only [List.map_toArray, List.map_cons, List.map_nil]); first | done | rfl | (simp only [List.length_drop, List.length_take]; rfl)) ?_; (with_reducible refine (spec_l20Rd_odd.calls k g s0_0 t150 a1 true t153 w0 _ ?side1 ?side2 A5.out).mono ?_); (case side1 => repeat (first | (with_reducible first | exact HI0.out | apply IsS133.alloc | apply IsS133.drewN | apply IsS133.drew | apply IsS133.set_1 | refine IsS133.far ?_ NB0_146.out _ | refine IsS133.far ?_ NB0_151.out _) | exact HI0.out)); (case side2 => repeat (first | (with_reducible first | exact HB.out | apply below_alloc | apply pw_below_drewN | apply below_drew1 | refine below_set ?_ (IsS133.ge HI0.out) | refine below_set ?_ GE146.out | refine below_set ?_ GE151.out) | exact HB.out)); rintro e w19 ⟨rfl, hi, hb, hk⟩; refine ⟨_, rfl, ?_⟩; have n0_ := Aside0.mk (KeepBut.blk hk (g' := gb146) (o := .cells #[.int .i64 0, .int .i64 0] 63 (0, 0)) (by (with_reducible repeat (first | refine blk_drewN ?_ _ | refine blk_drew ?_ | refine blk_alloc ?_ _)); refine blk_far ?_ NB146_151.out _; (with_reducible repeat (first | refine blk_drewN ?_ _ | refine blk_drew ?_ | refine blk_alloc ?_ _)); refine blk_far ?_ NB146_151.out _; (with_reducible repeat (first | refine blk_drewN ?_ _ | refine blk_drew ?_ | refine blk_alloc ?_ _)); exact BK146.out) NB146_0.out (by simp)); have n1_ := Aside0.mk (KeepBut.blk hk (g' := gb151) (o := .cells #[.int .i64 (wrap64 (1 + t147)), .int .i64 (wrap64 (1 + t149))] 63 (0, 0)) (by (with_reducible repeat (first | refine blk_drewN ?_ _ | refine blk_drew ?_ | refine blk_alloc ?_ _)); refine blk_put (cs := #[.int .i64 (wrap64 (1 + t147)), .int .i64 0]) ?_ 1 _ rfl; (with_reducible repeat (first | refine blk_drewN ?_ _ | refine blk_drew ?_ | refine blk_alloc ?_ _)); refine blk_put (cs := #[.int .i64 0, .int .i64 0]) ?_ 0 _ rfl; (with_reducible repeat (first | refine blk_drewN ?_ _ | refine blk_drew ?_ | refine blk_alloc ?_ _)); exact BK151.out) NB151_0.out (by simp)); have n2_ := Aside0.mk (KeepBut.trans (by repeat (first | (with_reducible first | exact HK.out | apply KeepBut.set_ | apply keep_drewN | apply keep_drew | apply keep_alloc | refine keep_far ?_ GW146.out _ | refine keep_far ?_ GW151.out _) | exact HK.out)) hk (.inl rfl)); have n3_ := Aside0.mk (hb); have n4_ := Aside0.mk (hi); clear BK146 BK151 HK HB HI0; have BK146 := n0_; have BK151 := n1_; have HK := n2_; have HB := n3_; have HI0 := n4_; clear n0_ n1_ n2_ n3_ n4_; (try clear hb); (try clear hb2); (try clear hk); (try clear hi); have TK5_ := Aside0.mk trivial) | (clear TK5_; (with_reducible refine gate_callee (f := 80) rfl ?_); refine goesL_ (some 17) rfl rfl Tryd.func80 (by kernel_rfl) rfl #[.pointer (some ⟨g, 0, none⟩), .int .i64 2] rfl (by (try simp only [List.map_toArray, List.map_cons, List.map_nil]); first | done | rfl | (simp only [List.length_drop, List.length_take]; rfl)) ?_; (with_reducible refine (spec_l20Rd_pick.calls k g s0_0 t153 2 t154 t155 w0 _ ?side1 ?side2 A7.out).mono ?_); (case side1 => repeat (first | (with_reducible first | exact HI0.out | apply IsS133.alloc | apply IsS133.drewN | apply IsS133.drew | apply IsS133.set_1 | refine IsS133.far ?_ NB0_146.out _ | refine IsS133.far ?_ NB0_151.out _) | exact HI0.out)); (case side2 => repeat (first | (with_reducible first | exact HB.out | apply below_alloc | apply pw_below_drewN | apply below_drew1 | refine below_set ?_ (IsS133.ge HI0.out) | refine below_set ?_ GE146.out | refine below_set ?_ GE151.out) | exact HB.out)); rintro e w20 ⟨rfl, hi, hb, hk⟩; refine ⟨_, rfl, ?_⟩; have n0_ := Aside0.mk (KeepBut.blk hk (g' := gb146) (o := .cells #[.int .i64 0, .int .i64 0] 63 (0, 0)) (bk BK146) NB146_0.out (by simp)); have n1_ := Aside0.mk (KeepBut.blk hk (g' := gb151) (o := .cells #[.int .i64 (wrap64 (1 + t147)), .int .i64 (wrap64 (1 + t149))] 63 (0, 0)) (bk BK151) NB151_0.out (by simp)); have n2_ := Aside0.mk (KeepBut.trans (by repeat (first | (with_reducible first | exact HK.out | apply KeepBut.set_ | apply keep_drewN | apply keep_drew | apply keep_alloc | refine keep_far ?_ GW146.out _ | refine keep_far ?_ GW151.out _) | exact HK.out)) hk (.inl rfl)); have n3_ := Aside0.mk (hb); have n4_ := Aside0.mk (hi); clear BK146 BK151 HK HB HI0; have BK146 := n0_; have BK151 := n1_; have HK := n2_; have HB := n3_; have HI0 := n4_; clear n0_ n1_ n2_ n3_ n4_; (try clear hb); (try clear hb2); (try clear hk); (try clear hi); have TK6_ := Aside0.mk trivial) | (clear TK6_; (with_reducible refine gate_dst (N := 19) rfl ?_); refine Kd.R_lit (Kd.int .i64) _ 3 ?hg (N := 19) ?hd (xs := ([0, 401] : List Int)) (inner := [.int .i64 0, .int .i64 401]) (ok := fun _ => True) (okp := fun _ => True) ?hr ?hp (fun _ hk => by first | exact hk | grind) trivial (Below.refl _ _) (Nat.le_refl _) (by simp) ?_; (case hd => rfl); (case hg => rfl); (case hr => first | (go_simp; done) | (go_simp; rfl)); (case hp => exact (Reps.one (show Kd.M (Kd.int .i64) _ _ _ 0 [.int .i64 0] from rfl) (Reps.one (show Kd.M (Kd.int .i64) _ _ _ 401 [.int .i64 401] from rfl) (Reps.none _ _)))); intro v157 w21 ho22 hb hg_ hnew_; clear hg_ hnew_; (first | rw [← Ny156.out] at ho22 | (simp only [Int.reduceToNat] at ho22; rw [← Ny156.out] at ho22)); have n0_ := Aside0.mk (Kd.R_lower ho22 (keep_size (w := w) (g := g) (row := none) (by repeat (first | (with_reducible first | exact HK.out | apply KeepBut.set_ | apply keep_drewN | apply keep_drew | apply keep_alloc | refine keep_far ?_ GW146.out _ | refine keep_far ?_ GW151.out _) | exact HK.out)))); have n1_ := Aside0.mk (IsS133.below (by repeat (first | (with_reducible first | exact HI0.out | apply IsS133.alloc | apply IsS133.drewN | apply IsS133.drew | apply IsS133.set_1 | refine IsS133.far ?_ NB0_146.out _ | refine IsS133.far ?_ NB0_151.out _) | exact HI0.out)) hb); have n2_ := bkB BK146 hb; have n3_ := bkB BK151 hb; have n4_ := Aside0.mk (KeepBut.trans (by repeat (first | (with_reducible first | exact HK.out | apply KeepBut.set_ | apply keep_drewN | apply keep_drew | apply keep_alloc | refine keep_far ?_ GW146.out _ | refine keep_far ?_ GW151.out _) | exact HK.out)) (KeepBut.of_below hb g none) (.inl rfl)); have n5_ := Aside0.mk (below_step (by repeat (first | (with_reducible first | exact HB.out | apply below_alloc | apply pw_below_drewN | apply below_drew1 | refine below_set ?_ (IsS133.ge HI0.out) | refine below_set ?_ GE146.out | refine below_set ?_ GE151.out) | exact HB.out)) hb); clear HI0 BK146 BK151 HK HB; have HO158 := n0_; have HI0 := n1_; have BK146 := n2_; have BK151 := n3_; have HK := n4_; have HB := n5_; clear n0_ n1_ n2_ n3_ n4_ n5_; clear hb ho22; have TK7_ := Aside0.mk trivial) | (clear TK7_; (with_reducible refine gate_callee (f := 80) rfl ?_); refine goesL_ (some 21) rfl rfl Tryd.func80 (by kernel_rfl) rfl #[.pointer (some ⟨g, 0, none⟩), .int .i64 2] rfl (by (try simp only [List.map_toArray, List.map_cons, List.map_nil]); first | done | rfl | (simp only [List.length_drop, List.length_take]; rfl)) ?_; (with_reducible refine (spec_l20Rd_pick.calls k g s0_0 t155 2 t159 t160 w0 _ ?side1 ?side2 A9.out).mono ?_); (case side1 => repeat (first | (with_reducible first | exact HI0.out | apply IsS133.alloc | apply IsS133.drewN | apply IsS133.drew | apply IsS133.set_1 | refine IsS133.far ?_ NB0_146.out _ | refine IsS133.far ?_ NB0_151.out _) | exact HI0.out)); (case side2 => repeat (first | (with_reducible first | exact HB.out | apply below_alloc | apply pw_below_drewN | apply below_drew1 | refine below_set ?_ (IsS133.ge HI0.out) | refine below_set ?_ GE146.out | refine below_set ?_ GE151.out) | exact HB.out)); rintro e w23 ⟨rfl, hi, hb, hk⟩; refine ⟨_, rfl, ?_⟩; have n0_ := Aside0.mk (KeepBut.blk hk (g' := gb146) (o := .cells #[.int .i64 0, .int .i64 0] 63 (0, 0)) (bk BK146) NB146_0.out (by simp)); have n1_ := Aside0.mk (KeepBut.blk hk (g' := gb151) (o := .cells #[.int .i64 (wrap64 (1 + t147)), .int .i64 (wrap64 (1 + t149))] 63 (0, 0)) (bk BK151) NB151_0.out (by simp)); have n2_ := Aside0.mk (Kd.R_mono (Kd.R_keep (IsS133.apart (show IsS133 w0 _ g s0_0 t155 from by repeat (first | (with_reducible first | exact HI0.out | apply IsS133.alloc | apply IsS133.drewN | apply IsS133.drew | apply IsS133.set_1 | refine IsS133.far ?_ NB0_146.out _ | refine IsS133.far ?_ NB0_151.out _) | exact HI0.out)) (rk HO158) (by decide)) hk (fun _ h => h.2)) (fun _ h => h.1)); have n3_ := Aside0.mk (KeepBut.trans (by repeat (first | (with_reducible first | exact HK.out | apply KeepBut.set_ | apply keep_drewN | apply keep_drew | apply keep_alloc | refine keep_far ?_ GW146.out _ | refine keep_far ?_ GW151.out _) | exact HK.out)) hk (.inl rfl)); have n4_ := Aside0.mk (hb); have n5_ := Aside0.mk (hi); clear BK146 BK151 HO158 HK HB HI0; have BK146 := n0_; have BK151 := n1_; have HO158 := n2_; have HK := n3_; have HB := n4_; have HI0 := n5_; clear n0_ n1_ n2_ n3_ n4_ n5_; (try clear hb); (try clear hb2); (try clear hk); (try clear hi); obtain ⟨Ao24, co24, eo24⟩ := Kd.R_slice HO158.out; subst eo24; have p161 : 0 ≤ (t159 : Int) := of_decide_eq_true (by first | (with_reducible assumption) | assumption); have q161 : t159 < (y156.length : Int) := of_decide_eq_true (by first | (with_reducible assumption) | assumption); obtain ⟨ad161, e161, hx161_0⟩ := Kd.at_int (Kd.R_reads' HO158.out).2.2 t159 p161 q161; cases e161; replace p161 := eq_true p161; replace q161 := eq_true q161; have hcz25_0 : w23.cell? ⟨gb151, 0, none⟩ = some (.int .i64 (wrap64 (1 + t147))) := (blk_cell BK151.out 0).trans rfl; have hcz25_1 : w23.cell? ⟨gb151, 1, none⟩ = some (.int .i64 (wrap64 (1 + t149))) := (blk_cell BK151.out 1).trans rfl; have hfz25_0 := blk_frozen BK151.out 0; have hfz25_1 := blk_frozen BK151.out 1; have hnb26 := NB146_0.out; have hnc26 := NB0_146.out; have hcz27_0 : w23.cell? ⟨gb146, 0, none⟩ = some (.int .i64 0) := (blk_cell BK146.out 0).trans rfl; have hcz27_1 : w23.cell? ⟨gb146, 1, none⟩ = some (.int .i64 0) := (blk_cell BK146.out 1).trans rfl; have hfz27_0 := blk_frozen BK146.out 0; have hfz27_1 := blk_frozen BK146.out 1; have TK8_ := Aside0.mk trivial))
     refine bodyPost_ret (results_cell_row rfl _ _ gb146 63 #[.int .i64 (rd y156 t159), .int .i64 (wrap64 (1 + t149))] (0, 0) _ rfl (by (with_reducible repeat (first | refine blk_drewN ?_ _ | refine blk_drew ?_ | refine blk_alloc ?_ _)); refine blk_put (cs := #[.int .i64 (rd y156 t159), .int .i64 0]) ?_ 1 _ rfl; (with_reducible repeat (first | refine blk_drewN ?_ _ | refine blk_drew ?_ | refine blk_alloc ?_ _)); refine blk_put (cs := #[.int .i64 0, .int .i64 0]) ?_ 0 _ rfl; (with_reducible repeat (first | refine blk_drewN ?_ _ | refine blk_drew ?_ | refine blk_alloc ?_ _)); refine blk_far ?_ NB146_151.out _; (with_reducible repeat (first | refine blk_drewN ?_ _ | refine blk_drew ?_ | refine blk_alloc ?_ _)); exact BK146.out) Tryd.underlying63 rfl (by kernel_rfl)) rfl ?_
     exact ⟨by first | rfl | (simp [errW_none, errW_some] <;> rfl) | (simp [*, errW_none, errW_some] <;> rfl), by repeat (first | (with_reducible first | exact HI0.out | apply IsS133.alloc | apply IsS133.drewN | apply IsS133.drew | apply IsS133.set_1 | refine IsS133.far ?_ NB0_146.out _ | refine IsS133.far ?_ NB0_151.out _) | exact HI0.out), by repeat (first | (with_reducible first | exact HB.out | apply below_alloc | apply pw_below_drewN | apply below_drew1 | refine below_set ?_ (IsS133.ge HI0.out) | refine below_set ?_ GE146.out | refine below_set ?_ GE151.out) | exact HB.out), by repeat (first | (with_reducible first | exact HK.out | apply KeepBut.set_ | apply keep_drewN | apply keep_drew | apply keep_alloc | refine keep_far ?_ GW146.out _ | refine keep_far ?_ GW151.out _) | exact HK.out)⟩
    ·rw [if_neg c11] at H
     exact absurd H (by simp)
   ·rw [if_neg c10] at H
    exact absurd H (by simp)
  ·rw [if_neg c8] at H
   have c8b0 : (t154 == 0) = false := beq_eq_false_iff_ne.mpr c8
   have c8b1 : (t154 != 0) = true := bne_iff_ne.mpr c8
   obtain ⟨y162, hy162⟩ : ∃ y_ : List Int, y_ = (([0, 61] : List Int)) := ⟨_, rfl⟩
   replace H : ((spec_l20Rd_pick.f k s0_0 t155 2).bind fun bt165 => (if 0 ≤ bt165.1 then (if bt165.1 < (y162.length : Int) then (some (wrap64 (1 + t147), rd y162 bt165.1, bt165.2)) else (none)) else (none))) = some (r1, r2, r3) := by first | (rw [hy162]; with_reducible exact H) | (have H2_ := (Option.bind_some _ _).symm.trans H; rw [hy162]; with_reducible exact H2_) | (have H2_ := (Option.bind_some _ _).symm.trans H; with_reducible exact H2_) | with_reducible exact H | (rw [hy162]; exact H) | exact H
   have Ny162 := Aside0.mk hy162
   clear hy162
   replace H := Option.bind_eq_some_iff.mp H
   obtain ⟨⟨t165, t166⟩, A280, H⟩ := H
   replace H : (if 0 ≤ t165 then (if t165 < (y162.length : Int) then (some (wrap64 (1 + t147), rd y162 t165, t166)) else (none)) else (none)) = some (r1, r2, r3) := H
   have A28 := Aside0.mk A280
   clear A280
   by_cases c29 : 0 ≤ t165
   ·rw [if_pos c29] at H
    have c29b0 : decide (0 ≤ t165) = true := decide_eq_true c29
    clear c29
    by_cases c30 : t165 < (y162.length : Int)
    ·rw [if_pos c30] at H
     have c30b0 : decide (t165 < (y162.length : Int)) = true := decide_eq_true c30
     clear c30
     simp only [Option.some.injEq, Prod.mk.injEq] at H
     obtain ⟨rfl, rfl, rfl⟩ := H
     go_enter Tryd.func101, Tryd.ntmps101
     have TK0_ := Aside0.mk trivial
     go_wp2_with (first | (clear TK0_; (with_reducible refine gate_dst (N := 4) rfl ?_); refine box_event ?hg (N := 4) ?hd (cs := #[.int .i64 0, .int .i64 0]) (t := 63) ?hr ?_; (case hd => rfl); (case hg => rfl); (case hr => first | (go_simp; done) | (go_simp; rfl)); intro gb146 hg w31 hbox hb; have n0_ := Aside0.mk (IsS133.below (by repeat (first | (with_reducible first | exact HI0.out | apply IsS133.alloc | apply IsS133.drewN | apply IsS133.drew | apply IsS133.set_1) | exact HI0.out)) hb); have n1_ := Aside0.mk (KeepBut.trans (by repeat (first | (with_reducible first | exact HK.out | apply KeepBut.set_ | apply keep_drewN | apply keep_drew | apply keep_alloc) | exact HK.out)) (KeepBut.of_below hb g none) (.inl rfl)); have n2_ := Aside0.mk (below_step (by repeat (first | (with_reducible first | exact HB.out | apply below_alloc | apply pw_below_drewN | apply below_drew1 | refine below_set ?_ (IsS133.ge HI0.out)) | exact HB.out)) hb); have n3_ := Aside0.mk (hbox); have n4_ := Aside0.mk ((by rw [hg]; exact (keep_size (w := w) (g := g) (row := none) (by repeat (first | (with_reducible first | exact HK.out | apply KeepBut.set_ | apply keep_drewN | apply keep_drew | apply keep_alloc) | exact HK.out))) : w.heap.size ≤ gb146)); have n5_ := Aside0.mk ((Nat.le_trans HW0.out (by rw [hg]; exact (keep_size (w := w) (g := g) (row := none) (by repeat (first | (with_reducible first | exact HK.out | apply KeepBut.set_ | apply keep_drewN | apply keep_drew | apply keep_alloc) | exact HK.out))) : w.heap.size ≤ gb146) : w0.heap.size ≤ gb146)); have n6_ := Aside0.mk ((by rw [hg]; exact Nat.ne_of_lt (IsS133.lt (show IsS133 w0 _ g s0_0 s0_1 from by repeat (first | (with_reducible first | exact HI0.out | apply IsS133.alloc | apply IsS133.drewN | apply IsS133.drew | apply IsS133.set_1) | exact HI0.out))) : g ≠ gb146)); have n7_ := Aside0.mk ((by rw [hg]; exact Nat.ne_of_gt (IsS133.lt (show IsS133 w0 _ g s0_0 s0_1 from by repeat (first | (with_reducible first | exact HI0.out | apply IsS133.alloc | apply IsS133.drewN | apply IsS133.drew | apply IsS133.set_1) | exact HI0.out))) : gb146 ≠ g)); clear HI0 HK HB; have HI0 := n0_; have HK := n1_; have HB := n2_; have BK146 := n3_; have GW146 := n4_; have GE146 := n5_; have NB0_146 := n6_; have NB146_0 := n7_; clear n0_ n1_ n2_ n3_ n4_ n5_ n6_ n7_; clear hb hbox hg; have TK1_ := Aside0.mk trivial) | (clear TK1_; (with_reducible refine gate_callee (f := 80) rfl ?_); refine goesL_ (some 7) rfl rfl Tryd.func80 (by kernel_rfl) rfl #[.pointer (some ⟨g, 0, none⟩), .int .i64 120] rfl (by (try simp only [List.map_toArray, List.map_cons, List.map_nil]); first | done | rfl | (simp only [List.length_drop, List.length_take]; rfl)) ?_; (with_reducible refine (spec_l20Rd_pick.calls k g s0_0 s0_1 120 t147 t148 w0 _ ?side1 ?side2 A3.out).mono ?_); (case side1 => repeat (first | (with_reducible first | exact HI0.out | apply IsS133.alloc | apply IsS133.drewN | apply IsS133.drew | apply IsS133.set_1 | refine IsS133.far ?_ NB0_146.out _) | exact HI0.out)); (case side2 => repeat (first | (with_reducible first | exact HB.out | apply below_alloc | apply pw_below_drewN | apply below_drew1 | refine below_set ?_ (IsS133.ge HI0.out) | refine below_set ?_ GE146.out) | exact HB.out)); rintro e w32 ⟨rfl, hi, hb, hk⟩; refine ⟨_, rfl, ?_⟩; have n0_ := Aside0.mk (KeepBut.blk hk (g' := gb146) (o := .cells #[.int .i64 0, .int .i64 0] 63 (0, 0)) (bk BK146) NB146_0.out (by simp)); have n1_ := Aside0.mk (KeepBut.trans (by repeat (first | (with_reducible first | exact HK.out | apply KeepBut.set_ | apply keep_drewN | apply keep_drew | apply keep_alloc | refine keep_far ?_ GW146.out _) | exact HK.out)) hk (.inl rfl)); have n2_ := Aside0.mk (hb); have n3_ := Aside0.mk (hi); clear BK146 HK HB HI0; have BK146 := n0_; have HK := n1_; have HB := n2_; have HI0 := n3_; clear n0_ n1_ n2_ n3_; (try clear hb); (try clear hb2); (try clear hk); (try clear hi); have TK2_ := Aside0.mk trivial) | (clear TK2_; (with_reducible refine gate_callee (f := 80) rfl ?_); refine goesL_ (some 10) rfl rfl Tryd.func80 (by kernel_rfl) rfl #[.pointer (some ⟨g, 0, none⟩), .int .i64 60] rfl (by (try simp only [List.map_toArray, List.map_cons, List.map_nil]); first | done | rfl | (simp only [List.length_drop, List.length_take]; rfl)) ?_; (with_reducible refine (spec_l20Rd_pick.calls k g s0_0 t148 60 t149 t150 w0 _ ?side1 ?side2 A4.out).mono ?_); (case side1 => repeat (first | (with_reducible first | exact HI0.out | apply IsS133.alloc | apply IsS133.drewN | apply IsS133.drew | apply IsS133.set_1 | refine IsS133.far ?_ NB0_146.out _) | exact HI0.out)); (case side2 => repeat (first | (with_reducible first | exact HB.out | apply below_alloc | apply pw_below_drewN | apply below_drew1 | refine below_set ?_ (IsS133.ge HI0.out) | refine below_set ?_ GE146.out) | exact HB.out)); rintro e w33 ⟨rfl, hi, hb, hk⟩; refine ⟨_, rfl, ?_⟩; have n0_ := Aside0.mk (KeepBut.blk hk (g' := gb146) (o := .cells #[.int .i64 0, .int .i64 0] 63 (0, 0)) (bk BK146) NB146_0.out (by simp)); have n1_ := Aside0.mk (KeepBut.trans (by repeat (first | (with_reducible first | exact HK.out | apply KeepBut.set_ | apply keep_drewN | apply keep_drew | apply keep_alloc | refine keep_far ?_ GW146.out _) | exact HK.out)) hk (.inl rfl)); have n2_ := Aside0.mk (hb); have n3_ := Aside0.mk (hi); clear BK146 HK HB HI0; have BK146 := n0_; have HK := n1_; have HB := n2_; have HI0 := n3_; clear n0_ n1_ n2_ n3_; (try clear hb); (try clear hb2); (try clear hk); (try clear hi); have TK3_ := Aside0.mk trivial) | (clear TK3_; (with_reducible refine gate_dst (N := 5) rfl ?_); refine box_event ?hg (N := 5) ?hd (cs := #[.int .i64 0, .int .i64 0]) (t := 63) ?hr ?_; (case hd => rfl); (case hg => rfl); (case hr => first | (go_simp; done) | (go_simp; rfl)); intro gb151 hg w34 hbox hb; have n0_ := Aside0.mk (IsS133.below (by repeat (first | (with_reducible first | exact HI0.out | apply IsS133.alloc | apply IsS133.drewN | apply IsS133.drew | apply IsS133.set_1 | refine IsS133.far ?_ NB0_146.out _) | exact HI0.out)) hb); have n1_ := bkB BK146 hb; have n2_ := Aside0.mk (KeepBut.trans (by repeat (first | (with_reducible first | exact HK.out | apply KeepBut.set_ | apply keep_drewN | apply keep_drew | apply keep_alloc | refine keep_far ?_ GW146.out _) | exact HK.out)) (KeepBut.of_below hb g none) (.inl rfl)); have n3_ := Aside0.mk (below_step (by repeat (first | (with_reducible first | exact HB.out | apply below_alloc | apply pw_below_drewN | apply below_drew1 | refine below_set ?_ (IsS133.ge HI0.out) | refine below_set ?_ GE146.out) | exact HB.out)) hb); have n4_ := Aside0.mk (hbox); have n5_ := Aside0.mk ((by rw [hg]; exact (keep_size (w := w) (g := g) (row := none) (by repeat (first | (with_reducible first | exact HK.out | apply KeepBut.set_ | apply keep_drewN | apply keep_drew | apply keep_alloc | refine keep_far ?_ GW146.out _) | exact HK.out))) : w.heap.size ≤ gb151)); have n6_ := Aside0.mk ((Nat.le_trans HW0.out (by rw [hg]; exact (keep_size (w := w) (g := g) (row := none) (by repeat (first | (with_reducible first | exact HK.out | apply KeepBut.set_ | apply keep_drewN | apply keep_drew | apply keep_alloc | refine keep_far ?_ GW146.out _) | exact HK.out))) : w.heap.size ≤ gb151) : w0.heap.size ≤ gb151)); have n7_ := Aside0.mk ((by rw [hg]; exact Nat.ne_of_lt (blk_lt (g := gb146) (o := .cells #[.int .i64 0, .int .i64 0] 63 (0, 0)) (bk BK146)) : gb146 ≠ gb151)); have n8_ := Aside0.mk ((by rw [hg]; exact Nat.ne_of_gt (blk_lt (g := gb146) (o := .cells #[.int .i64 0, .int .i64 0] 63 (0, 0)) (bk BK146)) : gb151 ≠ gb146)); have n9_ := Aside0.mk ((by rw [hg]; exact Nat.ne_of_lt (IsS133.lt (show IsS133 w0 _ g s0_0 t150 from by repeat (first | (with_reducible first | exact HI0.out | apply IsS133.alloc | apply IsS133.drewN | apply IsS133.drew | apply IsS133.set_1 | refine IsS133.far ?_ NB0_146.out _) | exact HI0.out))) : g ≠ gb151)); have n10_ := Aside0.mk ((by rw [hg]; exact Nat.ne_of_gt (IsS133.lt (show IsS133 w0 _ g s0_0 t150 from by repeat (first | (with_reducible first | exact HI0.out | apply IsS133.alloc | apply IsS133.drewN | apply IsS133.drew | apply IsS133.set_1 | refine IsS133.far ?_ NB0_146.out _) | exact HI0.out))) : gb151 ≠ g)); clear HI0 BK146 HK HB; have HI0 := n0_; have BK146 := n1_; have HK := n2_; have HB := n3_; have BK151 := n4_; have GW151 := n5_; have GE151 := n6_; have NB146_151 := n7_; have NB151_146 := n8_; have NB0_151 := n9_; have NB151_0 := n10_; clear n0_ n1_ n2_ n3_ n4_ n5_ n6_ n7_ n8_ n9_ n10_; clear hb hbox hg; have hnb35 := NB151_146.out; have hnc35 := NB146_151.out; have hnb36 := NB151_0.out; have hnc36 := NB0_151.out; have hcz37_0 : w34.cell? ⟨gb151, 0, none⟩ = some (.int .i64 0) := (blk_cell BK151.out 0).trans rfl; have hcz37_1 : w34.cell? ⟨gb151, 1, none⟩ = some (.int .i64 0) := (blk_cell BK151.out 1).trans rfl; have hfz37_0 := blk_frozen BK151.out 0; have hfz37_1 := blk_frozen BK151.out 1; have TK4_ := Aside0.mk trivial) | (clear TK4_; (with_reducible refine gate_callee (f := 130) rfl ?_); refine goesL_ (some 15) rfl rfl Tryd.func130 (by kernel_rfl) rfl #[.pointer (some ⟨g, 0, none⟩), .int .i64 a1] rfl (by (try simp only [List.map_toArray, List.map_cons, List.map_nil]); first | done | rfl | (simp only [List.length_drop, List.length_take]; rfl)) ?_; (with_reducible refine (spec_l20Rd_odd.calls k g s0_0 t150 a1 true t153 w0 _ ?side1 ?side2 A5.out).mono ?_); (case side1 => repeat (first | (with_reducible first | exact HI0.out | apply IsS133.alloc | apply IsS133.drewN | apply IsS133.drew | apply IsS133.set_1 | refine IsS133.far ?_ NB0_146.out _ | refine IsS133.far ?_ NB0_151.out _) | exact HI0.out)); (case side2 => repeat (first | (with_reducible first | exact HB.out | apply below_alloc | apply pw_below_drewN | apply below_drew1 | refine below_set ?_ (IsS133.ge HI0.out) | refine below_set ?_ GE146.out | refine below_set ?_ GE151.out) | exact HB.out)); rintro e w38 ⟨rfl, hi, hb, hk⟩; refine ⟨_, rfl, ?_⟩; have n0_ := Aside0.mk (KeepBut.blk hk (g' := gb146) (o := .cells #[.int .i64 0, .int .i64 0] 63 (0, 0)) (by (with_reducible repeat (first | refine blk_drewN ?_ _ | refine blk_drew ?_ | refine blk_alloc ?_ _)); refine blk_far ?_ NB146_151.out _; (with_reducible repeat (first | refine blk_drewN ?_ _ | refine blk_drew ?_ | refine blk_alloc ?_ _)); refine blk_far ?_ NB146_151.out _; (with_reducible repeat (first | refine blk_drewN ?_ _ | refine blk_drew ?_ | refine blk_alloc ?_ _)); exact BK146.out) NB146_0.out (by simp)); have n1_ := Aside0.mk (KeepBut.blk hk (g' := gb151) (o := .cells #[.int .i64 (wrap64 (1 + t147)), .int .i64 (wrap64 (1 + t149))] 63 (0, 0)) (by (with_reducible repeat (first | refine blk_drewN ?_ _ | refine blk_drew ?_ | refine blk_alloc ?_ _)); refine blk_put (cs := #[.int .i64 (wrap64 (1 + t147)), .int .i64 0]) ?_ 1 _ rfl; (with_reducible repeat (first | refine blk_drewN ?_ _ | refine blk_drew ?_ | refine blk_alloc ?_ _)); refine blk_put (cs := #[.int .i64 0, .int .i64 0]) ?_ 0 _ rfl; (with_reducible repeat (first | refine blk_drewN ?_ _ | refine blk_drew ?_ | refine blk_alloc ?_ _)); exact BK151.out) NB151_0.out (by simp)); have n2_ := Aside0.mk (KeepBut.trans (by repeat (first | (with_reducible first | exact HK.out | apply KeepBut.set_ | apply keep_drewN | apply keep_drew | apply keep_alloc | refine keep_far ?_ GW146.out _ | refine keep_far ?_ GW151.out _) | exact HK.out)) hk (.inl rfl)); have n3_ := Aside0.mk (hb); have n4_ := Aside0.mk (hi); clear BK146 BK151 HK HB HI0; have BK146 := n0_; have BK151 := n1_; have HK := n2_; have HB := n3_; have HI0 := n4_; clear n0_ n1_ n2_ n3_ n4_; (try clear hb); (try clear hb2); (try clear hk); (try clear hi); have TK5_ := Aside0.mk trivial) | (clear TK5_; (with_reducible refine gate_callee (f := 80) rfl ?_); refine goesL_ (some 17) rfl rfl Tryd.func80 (by kernel_rfl) rfl #[.pointer (some ⟨g, 0, none⟩), .int .i64 2] rfl (by (try simp only [List.map_toArray, List.map_cons, List.map_nil]); first | done | rfl | (simp only [List.length_drop, List.length_take]; rfl)) ?_; (with_reducible refine (spec_l20Rd_pick.calls k g s0_0 t153 2 t154 t155 w0 _ ?side1 ?side2 A7.out).mono ?_); (case side1 => repeat (first | (with_reducible first | exact HI0.out | apply IsS133.alloc | apply IsS133.drewN | apply IsS133.drew | apply IsS133.set_1 | refine IsS133.far ?_ NB0_146.out _ | refine IsS133.far ?_ NB0_151.out _) | exact HI0.out)); (case side2 => repeat (first | (with_reducible first | exact HB.out | apply below_alloc | apply pw_below_drewN | apply below_drew1 | refine below_set ?_ (IsS133.ge HI0.out) | refine below_set ?_ GE146.out | refine below_set ?_ GE151.out) | exact HB.out)); rintro e w39 ⟨rfl, hi, hb, hk⟩; refine ⟨_, rfl, ?_⟩; have n0_ := Aside0.mk (KeepBut.blk hk (g' := gb146) (o := .cells #[.int .i64 0, .int .i64 0] 63 (0, 0)) (bk BK146) NB146_0.out (by simp)); have n1_ := Aside0.mk (KeepBut.blk hk (g' := gb151) (o := .cells #[.int .i64 (wrap64 (1 + t147)), .int .i64 (wrap64 (1 + t149))] 63 (0, 0)) (bk BK151) NB151_0.out (by simp)); have n2_ := Aside0.mk (KeepBut.trans (by repeat (first | (with_reducible first | exact HK.out | apply KeepBut.set_ | apply keep_drewN | apply keep_drew | apply keep_alloc | refine keep_far ?_ GW146.out _ | refine keep_far ?_ GW151.out _) | exact HK.out)) hk (.inl rfl)); have n3_ := Aside0.mk (hb); have n4_ := Aside0.mk (hi); clear BK146 BK151 HK HB HI0; have BK146 := n0_; have BK151 := n1_; have HK := n2_; have HB := n3_; have HI0 := n4_; clear n0_ n1_ n2_ n3_ n4_; (try clear hb); (try clear hb2); (try clear hk); (try clear hi); have TK6_ := Aside0.mk trivial) | (clear TK6_; (with_reducible refine gate_dst (N := 25) rfl ?_); refine Kd.R_lit (Kd.int .i64) _ 3 ?hg (N := 25) ?hd (xs := ([0, 61] : List Int)) (inner := [.int .i64 0, .int .i64 61]) (ok := fun _ => True) (okp := fun _ => True) ?hr ?hp (fun _ hk => by first | exact hk | grind) trivial (Below.refl _ _) (Nat.le_refl _) (by simp) ?_; (case hd => rfl); (case hg => rfl); (case hr => first | (go_simp; done) | (go_simp; rfl)); (case hp => exact (Reps.one (show Kd.M (Kd.int .i64) _ _ _ 0 [.int .i64 0] from rfl) (Reps.one (show Kd.M (Kd.int .i64) _ _ _ 61 [.int .i64 61] from rfl) (Reps.none _ _)))); intro v163 w40 ho41 hb hg_ hnew_; clear hg_ hnew_; (first | rw [← Ny162.out] at ho41 | (simp only [Int.reduceToNat] at ho41; rw [← Ny162.out] at ho41)); have n0_ := Aside0.mk (Kd.R_lower ho41 (keep_size (w := w) (g := g) (row := none) (by repeat (first | (with_reducible first | exact HK.out | apply KeepBut.set_ | apply keep_drewN | apply keep_drew | apply keep_alloc | refine keep_far ?_ GW146.out _ | refine keep_far ?_ GW151.out _) | exact HK.out)))); have n1_ := Aside0.mk (IsS133.below (by repeat (first | (with_reducible first | exact HI0.out | apply IsS133.alloc | apply IsS133.drewN | apply IsS133.drew | apply IsS133.set_1 | refine IsS133.far ?_ NB0_146.out _ | refine IsS133.far ?_ NB0_151.out _) | exact HI0.out)) hb); have n2_ := bkB BK146 hb; have n3_ := bkB BK151 hb; have n4_ := Aside0.mk (KeepBut.trans (by repeat (first | (with_reducible first | exact HK.out | apply KeepBut.set_ | apply keep_drewN | apply keep_drew | apply keep_alloc | refine keep_far ?_ GW146.out _ | refine keep_far ?_ GW151.out _) | exact HK.out)) (KeepBut.of_below hb g none) (.inl rfl)); have n5_ := Aside0.mk (below_step (by repeat (first | (with_reducible first | exact HB.out | apply below_alloc | apply pw_below_drewN | apply below_drew1 | refine below_set ?_ (IsS133.ge HI0.out) | refine below_set ?_ GE146.out | refine below_set ?_ GE151.out) | exact HB.out)) hb); clear HI0 BK146 BK151 HK HB; have HO164 := n0_; have HI0 := n1_; have BK146 := n2_; have BK151 := n3_; have HK := n4_; have HB := n5_; clear n0_ n1_ n2_ n3_ n4_ n5_; clear hb ho41; have TK7_ := Aside0.mk trivial) | (clear TK7_; (with_reducible refine gate_callee (f := 80) rfl ?_); refine goesL_ (some 27) rfl rfl Tryd.func80 (by kernel_rfl) rfl #[.pointer (some ⟨g, 0, none⟩), .int .i64 2] rfl (by (try simp only [List.map_toArray, List.map_cons, List.map_nil]); first | done | rfl | (simp only [List.length_drop, List.length_take]; rfl)) ?_; (with_reducible refine (spec_l20Rd_pick.calls k g s0_0 t155 2 t165 t166 w0 _ ?side1 ?side2 A28.out).mono ?_); (case side1 => repeat (first | (with_reducible first | exact HI0.out | apply IsS133.alloc | apply IsS133.drewN | apply IsS133.drew | apply IsS133.set_1 | refine IsS133.far ?_ NB0_146.out _ | refine IsS133.far ?_ NB0_151.out _) | exact HI0.out)); (case side2 => repeat (first | (with_reducible first | exact HB.out | apply below_alloc | apply pw_below_drewN | apply below_drew1 | refine below_set ?_ (IsS133.ge HI0.out) | refine below_set ?_ GE146.out | refine below_set ?_ GE151.out) | exact HB.out)); rintro e w42 ⟨rfl, hi, hb, hk⟩; refine ⟨_, rfl, ?_⟩; have n0_ := Aside0.mk (KeepBut.blk hk (g' := gb146) (o := .cells #[.int .i64 0, .int .i64 0] 63 (0, 0)) (bk BK146) NB146_0.out (by simp)); have n1_ := Aside0.mk (KeepBut.blk hk (g' := gb151) (o := .cells #[.int .i64 (wrap64 (1 + t147)), .int .i64 (wrap64 (1 + t149))] 63 (0, 0)) (bk BK151) NB151_0.out (by simp)); have n2_ := Aside0.mk (Kd.R_mono (Kd.R_keep (IsS133.apart (show IsS133 w0 _ g s0_0 t155 from by repeat (first | (with_reducible first | exact HI0.out | apply IsS133.alloc | apply IsS133.drewN | apply IsS133.drew | apply IsS133.set_1 | refine IsS133.far ?_ NB0_146.out _ | refine IsS133.far ?_ NB0_151.out _) | exact HI0.out)) (rk HO164) (by decide)) hk (fun _ h => h.2)) (fun _ h => h.1)); have n3_ := Aside0.mk (KeepBut.trans (by repeat (first | (with_reducible first | exact HK.out | apply KeepBut.set_ | apply keep_drewN | apply keep_drew | apply keep_alloc | refine keep_far ?_ GW146.out _ | refine keep_far ?_ GW151.out _) | exact HK.out)) hk (.inl rfl)); have n4_ := Aside0.mk (hb); have n5_ := Aside0.mk (hi); clear BK146 BK151 HO164 HK HB HI0; have BK146 := n0_; have BK151 := n1_; have HO164 := n2_; have HK := n3_; have HB := n4_; have HI0 := n5_; clear n0_ n1_ n2_ n3_ n4_ n5_; (try clear hb); (try clear hb2); (try clear hk); (try clear hi); obtain ⟨Ao43, co43, eo43⟩ := Kd.R_slice HO164.out; subst eo43; have p167 : 0 ≤ (t165 : Int) := of_decide_eq_true (by first | (with_reducible assumption) | assumption); have q167 : t165 < (y162.length : Int) := of_decide_eq_true (by first | (with_reducible assumption) | assumption); obtain ⟨ad167, e167, hx167_0⟩ := Kd.at_int (Kd.R_reads' HO164.out).2.2 t165 p167 q167; cases e167; replace p167 := eq_true p167; replace q167 := eq_true q167; have hcz44_0 : w42.cell? ⟨gb151, 0, none⟩ = some (.int .i64 (wrap64 (1 + t147))) := (blk_cell BK151.out 0).trans rfl; have hcz44_1 : w42.cell? ⟨gb151, 1, none⟩ = some (.int .i64 (wrap64 (1 + t149))) := (blk_cell BK151.out 1).trans rfl; have hfz44_0 := blk_frozen BK151.out 0; have hfz44_1 := blk_frozen BK151.out 1; have hnb45 := NB146_0.out; have hnc45 := NB0_146.out; have hcz46_0 : w42.cell? ⟨gb146, 0, none⟩ = some (.int .i64 0) := (blk_cell BK146.out 0).trans rfl; have hcz46_1 : w42.cell? ⟨gb146, 1, none⟩ = some (.int .i64 0) := (blk_cell BK146.out 1).trans rfl; have hfz46_0 := blk_frozen BK146.out 0; have hfz46_1 := blk_frozen BK146.out 1; have TK8_ := Aside0.mk trivial))
     refine bodyPost_ret (results_cell_row rfl _ _ gb146 63 #[.int .i64 (wrap64 (1 + t147)), .int .i64 (rd y162 t165)] (0, 0) _ rfl (by (with_reducible repeat (first | refine blk_drewN ?_ _ | refine blk_drew ?_ | refine blk_alloc ?_ _)); refine blk_put (cs := #[.int .i64 (wrap64 (1 + t147)), .int .i64 0]) ?_ 1 _ rfl; (with_reducible repeat (first | refine blk_drewN ?_ _ | refine blk_drew ?_ | refine blk_alloc ?_ _)); refine blk_put (cs := #[.int .i64 0, .int .i64 0]) ?_ 0 _ rfl; (with_reducible repeat (first | refine blk_drewN ?_ _ | refine blk_drew ?_ | refine blk_alloc ?_ _)); refine blk_far ?_ NB146_151.out _; (with_reducible repeat (first | refine blk_drewN ?_ _ | refine blk_drew ?_ | refine blk_alloc ?_ _)); exact BK146.out) Tryd.underlying63 rfl (by kernel_rfl)) rfl ?_
     exact ⟨by first | rfl | (simp [errW_none, errW_some] <;> rfl) | (simp [*, errW_none, errW_some] <;> rfl), by repeat (first | (with_reducible first | exact HI0.out | apply IsS133.alloc | apply IsS133.drewN | apply IsS133.drew | apply IsS133.set_1 | refine IsS133.far ?_ NB0_146.out _ | refine IsS133.far ?_ NB0_151.out _) | exact HI0.out), by repeat (first | (with_reducible first | exact HB.out | apply below_alloc | apply pw_below_drewN | apply below_drew1 | refine below_set ?_ (IsS133.ge HI0.out) | refine below_set ?_ GE146.out | refine below_set ?_ GE151.out) | exact HB.out), by repeat (first | (with_reducible first | exact HK.out | apply KeepBut.set_ | apply keep_drewN | apply keep_drew | apply keep_alloc | refine keep_far ?_ GW146.out _ | refine keep_far ?_ GW151.out _) | exact HK.out)⟩
    ·rw [if_neg c30] at H
     exact absurd H (by simp)
   ·rw [if_neg c29] at H
    exact absurd H (by simp)
 ·replace c6 := Bool.eq_false_iff.mpr c6
  subst c6
  have H1 : (some (wrap64 (1 + t147), wrap64 (1 + t149), t153)) = some (r1, r2, r3) := by rw [if_neg (show ¬ (false = true) by decide)] at H; exact H
  clear H
  have H := H1
  clear H1
  simp only [Option.some.injEq, Prod.mk.injEq] at H
  obtain ⟨rfl, rfl, rfl⟩ := H
  go_enter Tryd.func101, Tryd.ntmps101
  have TK0_ := Aside0.mk trivial
  go_wp2_with (first | (clear TK0_; (with_reducible refine gate_dst (N := 4) rfl ?_); refine box_event ?hg (N := 4) ?hd (cs := #[.int .i64 0, .int .i64 0]) (t := 63) ?hr ?_; (case hd => rfl); (case hg => rfl); (case hr => first | (go_simp; done) | (go_simp; rfl)); intro gb146 hg w47 hbox hb; have n0_ := Aside0.mk (IsS133.below (by repeat (first | (with_reducible first | exact HI0.out | apply IsS133.alloc | apply IsS133.drewN | apply IsS133.drew | apply IsS133.set_1) | exact HI0.out)) hb); have n1_ := Aside0.mk (KeepBut.trans (by repeat (first | (with_reducible first | exact HK.out | apply KeepBut.set_ | apply keep_drewN | apply keep_drew | apply keep_alloc) | exact HK.out)) (KeepBut.of_below hb g none) (.inl rfl)); have n2_ := Aside0.mk (below_step (by repeat (first | (with_reducible first | exact HB.out | apply below_alloc | apply pw_below_drewN | apply below_drew1 | refine below_set ?_ (IsS133.ge HI0.out)) | exact HB.out)) hb); have n3_ := Aside0.mk (hbox); have n4_ := Aside0.mk ((by rw [hg]; exact (keep_size (w := w) (g := g) (row := none) (by repeat (first | (with_reducible first | exact HK.out | apply KeepBut.set_ | apply keep_drewN | apply keep_drew | apply keep_alloc) | exact HK.out))) : w.heap.size ≤ gb146)); have n5_ := Aside0.mk ((Nat.le_trans HW0.out (by rw [hg]; exact (keep_size (w := w) (g := g) (row := none) (by repeat (first | (with_reducible first | exact HK.out | apply KeepBut.set_ | apply keep_drewN | apply keep_drew | apply keep_alloc) | exact HK.out))) : w.heap.size ≤ gb146) : w0.heap.size ≤ gb146)); have n6_ := Aside0.mk ((by rw [hg]; exact Nat.ne_of_lt (IsS133.lt (show IsS133 w0 _ g s0_0 s0_1 from by repeat (first | (with_reducible first | exact HI0.out | apply IsS133.alloc | apply IsS133.drewN | apply IsS133.drew | apply IsS133.set_1) | exact HI0.out))) : g ≠ gb146)); have n7_ := Aside0.mk ((by rw [hg]; exact Nat.ne_of_gt (IsS133.lt (show IsS133 w0 _ g s0_0 s0_1 from by repeat (first | (with_reducible first | exact HI0.out | apply IsS133.alloc | apply IsS133.drewN | apply IsS133.drew | apply IsS133.set_1) | exact HI0.out))) : gb146 ≠ g)); clear HI0 HK HB; have HI0 := n0_; have HK := n1_; have HB := n2_; have BK146 := n3_; have GW146 := n4_; have GE146 := n5_; have NB0_146 := n6_; have NB146_0 := n7_; clear n0_ n1_ n2_ n3_ n4_ n5_ n6_ n7_; clear hb hbox hg; have TK1_ := Aside0.mk trivial) | (clear TK1_; (with_reducible refine gate_callee (f := 80) rfl ?_); refine goesL_ (some 7) rfl rfl Tryd.func80 (by kernel_rfl) rfl #[.pointer (some ⟨g, 0, none⟩), .int .i64 120] rfl (by (try simp only [List.map_toArray, List.map_cons, List.map_nil]); first | done | rfl | (simp only [List.length_drop, List.length_take]; rfl)) ?_; (with_reducible refine (spec_l20Rd_pick.calls k g s0_0 s0_1 120 t147 t148 w0 _ ?side1 ?side2 A3.out).mono ?_); (case side1 => repeat (first | (with_reducible first | exact HI0.out | apply IsS133.alloc | apply IsS133.drewN | apply IsS133.drew | apply IsS133.set_1 | refine IsS133.far ?_ NB0_146.out _) | exact HI0.out)); (case side2 => repeat (first | (with_reducible first | exact HB.out | apply below_alloc | apply pw_below_drewN | apply below_drew1 | refine below_set ?_ (IsS133.ge HI0.out) | refine below_set ?_ GE146.out) | exact HB.out)); rintro e w48 ⟨rfl, hi, hb, hk⟩; refine ⟨_, rfl, ?_⟩; have n0_ := Aside0.mk (KeepBut.blk hk (g' := gb146) (o := .cells #[.int .i64 0, .int .i64 0] 63 (0, 0)) (bk BK146) NB146_0.out (by simp)); have n1_ := Aside0.mk (KeepBut.trans (by repeat (first | (with_reducible first | exact HK.out | apply KeepBut.set_ | apply keep_drewN | apply keep_drew | apply keep_alloc | refine keep_far ?_ GW146.out _) | exact HK.out)) hk (.inl rfl)); have n2_ := Aside0.mk (hb); have n3_ := Aside0.mk (hi); clear BK146 HK HB HI0; have BK146 := n0_; have HK := n1_; have HB := n2_; have HI0 := n3_; clear n0_ n1_ n2_ n3_; (try clear hb); (try clear hb2); (try clear hk); (try clear hi); have TK2_ := Aside0.mk trivial) | (clear TK2_; (with_reducible refine gate_callee (f := 80) rfl ?_); refine goesL_ (some 10) rfl rfl Tryd.func80 (by kernel_rfl) rfl #[.pointer (some ⟨g, 0, none⟩), .int .i64 60] rfl (by (try simp only [List.map_toArray, List.map_cons, List.map_nil]); first | done | rfl | (simp only [List.length_drop, List.length_take]; rfl)) ?_; (with_reducible refine (spec_l20Rd_pick.calls k g s0_0 t148 60 t149 t150 w0 _ ?side1 ?side2 A4.out).mono ?_); (case side1 => repeat (first | (with_reducible first | exact HI0.out | apply IsS133.alloc | apply IsS133.drewN | apply IsS133.drew | apply IsS133.set_1 | refine IsS133.far ?_ NB0_146.out _) | exact HI0.out)); (case side2 => repeat (first | (with_reducible first | exact HB.out | apply below_alloc | apply pw_below_drewN | apply below_drew1 | refine below_set ?_ (IsS133.ge HI0.out) | refine below_set ?_ GE146.out) | exact HB.out)); rintro e w49 ⟨rfl, hi, hb, hk⟩; refine ⟨_, rfl, ?_⟩; have n0_ := Aside0.mk (KeepBut.blk hk (g' := gb146) (o := .cells #[.int .i64 0, .int .i64 0] 63 (0, 0)) (bk BK146) NB146_0.out (by simp)); have n1_ := Aside0.mk (KeepBut.trans (by repeat (first | (with_reducible first | exact HK.out | apply KeepBut.set_ | apply keep_drewN | apply keep_drew | apply keep_alloc | refine keep_far ?_ GW146.out _) | exact HK.out)) hk (.inl rfl)); have n2_ := Aside0.mk (hb); have n3_ := Aside0.mk (hi); clear BK146 HK HB HI0; have BK146 := n0_; have HK := n1_; have HB := n2_; have HI0 := n3_; clear n0_ n1_ n2_ n3_; (try clear hb); (try clear hb2); (try clear hk); (try clear hi); have TK3_ := Aside0.mk trivial) | (clear TK3_; (with_reducible refine gate_dst (N := 5) rfl ?_); refine box_event ?hg (N := 5) ?hd (cs := #[.int .i64 0, .int .i64 0]) (t := 63) ?hr ?_; (case hd => rfl); (case hg => rfl); (case hr => first | (go_simp; done) | (go_simp; rfl)); intro gb151 hg w50 hbox hb; have n0_ := Aside0.mk (IsS133.below (by repeat (first | (with_reducible first | exact HI0.out | apply IsS133.alloc | apply IsS133.drewN | apply IsS133.drew | apply IsS133.set_1 | refine IsS133.far ?_ NB0_146.out _) | exact HI0.out)) hb); have n1_ := bkB BK146 hb; have n2_ := Aside0.mk (KeepBut.trans (by repeat (first | (with_reducible first | exact HK.out | apply KeepBut.set_ | apply keep_drewN | apply keep_drew | apply keep_alloc | refine keep_far ?_ GW146.out _) | exact HK.out)) (KeepBut.of_below hb g none) (.inl rfl)); have n3_ := Aside0.mk (below_step (by repeat (first | (with_reducible first | exact HB.out | apply below_alloc | apply pw_below_drewN | apply below_drew1 | refine below_set ?_ (IsS133.ge HI0.out) | refine below_set ?_ GE146.out) | exact HB.out)) hb); have n4_ := Aside0.mk (hbox); have n5_ := Aside0.mk ((by rw [hg]; exact (keep_size (w := w) (g := g) (row := none) (by repeat (first | (with_reducible first | exact HK.out | apply KeepBut.set_ | apply keep_drewN | apply keep_drew | apply keep_alloc | refine keep_far ?_ GW146.out _) | exact HK.out))) : w.heap.size ≤ gb151)); have n6_ := Aside0.mk ((Nat.le_trans HW0.out (by rw [hg]; exact (keep_size (w := w) (g := g) (row := none) (by repeat (first | (with_reducible first | exact HK.out | apply KeepBut.set_ | apply keep_drewN | apply keep_drew | apply keep_alloc | refine keep_far ?_ GW146.out _) | exact HK.out))) : w.heap.size ≤ gb151) : w0.heap.size ≤ gb151)); have n7_ := Aside0.mk ((by rw [hg]; exact Nat.ne_of_lt (blk_lt (g := gb146) (o := .cells #[.int .i64 0, .int .i64 0] 63 (0, 0)) (bk BK146)) : gb146 ≠ gb151)); have n8_ := Aside0.mk ((by rw [hg]; exact Nat.ne_of_gt (blk_lt (g := gb146) (o := .cells #[.int .i64 0, .int .i64 0] 63 (0, 0)) (bk BK146)) : gb151 ≠ gb146)); have n9_ := Aside0.mk ((by rw [hg]; exact Nat.ne_of_lt (IsS133.lt (show IsS133 w0 _ g s0_0 t150 from by repeat (first | (with_reducible first | exact HI0.out | apply IsS133.alloc | apply IsS133.drewN | apply IsS133.drew | apply IsS133.set_1 | refine IsS133.far ?_ NB0_146.out _) | exact HI0.out))) : g ≠ gb151)); have n10_ := Aside0.mk ((by rw [hg]; exact Nat.ne_of_gt (IsS133.lt (show IsS133 w0 _ g s0_0 t150 from by repeat (first | (with_reducible first | exact HI0.out | apply IsS133.alloc | apply IsS133.drewN | apply IsS133.drew | apply IsS133.set_1 | refine IsS133.far ?_ NB0_146.out _) | exact HI0.out))) : gb151 ≠ g)); clear HI0 BK146 HK HB; have HI0 := n0_; have BK146 := n1_; have HK := n2_; have HB := n3_; have BK151 := n4_; have GW151 := n5_; have GE151 := n6_; have NB146_151 := n7_; have NB151_146 := n8_; have NB0_151 := n9_; have NB151_0 := n10_; clear n0_ n1_ n2_ n3_ n4_ n5_ n6_ n7_ n8_ n9_ n10_; clear hb hbox hg; have hnb51 := NB151_146.out; have hnc51 := NB146_151.out; have hnb52 := NB151_0.out; have hnc52 := NB0_151.out; have hcz53_0 : w50.cell? ⟨gb151, 0, none⟩ = some (.int .i64 0) := (blk_cell BK151.out 0).trans rfl; have hcz53_1 : w50.cell? ⟨gb151, 1, none⟩ = some (.int .i64 0) := (blk_cell BK151.out 1).trans rfl; have hfz53_0 := blk_frozen BK151.out 0; have hfz53_1 := blk_frozen BK151.out 1; have TK4_ := Aside0.mk trivial) | (clear TK4_; (with_reducible refine gate_callee (f := 130) rfl ?_); refine goesL_ (some 15) rfl rfl Tryd.func130 (by kernel_rfl) rfl #[.pointer (some ⟨g, 0, none⟩), .int .i64 a1] rfl (by (try simp only [List.map_toArray, List.map_cons, List.map_nil]); first | done | rfl | (simp only [List.length_drop, List.length_take]; rfl)) ?_; (with_reducible refine (spec_l20Rd_odd.calls k g s0_0 t150 a1 false t153 w0 _ ?side1 ?side2 A5.out).mono ?_); (case side1 => repeat (first | (with_reducible first | exact HI0.out | apply IsS133.alloc | apply IsS133.drewN | apply IsS133.drew | apply IsS133.set_1 | refine IsS133.far ?_ NB0_146.out _ | refine IsS133.far ?_ NB0_151.out _) | exact HI0.out)); (case side2 => repeat (first | (with_reducible first | exact HB.out | apply below_alloc | apply pw_below_drewN | apply below_drew1 | refine below_set ?_ (IsS133.ge HI0.out) | refine below_set ?_ GE146.out | refine below_set ?_ GE151.out) | exact HB.out)); rintro e w54 ⟨rfl, hi, hb, hk⟩; refine ⟨_, rfl, ?_⟩; have n0_ := Aside0.mk (KeepBut.blk hk (g' := gb146) (o := .cells #[.int .i64 0, .int .i64 0] 63 (0, 0)) (by (with_reducible repeat (first | refine blk_drewN ?_ _ | refine blk_drew ?_ | refine blk_alloc ?_ _)); refine blk_far ?_ NB146_151.out _; (with_reducible repeat (first | refine blk_drewN ?_ _ | refine blk_drew ?_ | refine blk_alloc ?_ _)); refine blk_far ?_ NB146_151.out _; (with_reducible repeat (first | refine blk_drewN ?_ _ | refine blk_drew ?_ | refine blk_alloc ?_ _)); exact BK146.out) NB146_0.out (by simp)); have n1_ := Aside0.mk (KeepBut.blk hk (g' := gb151) (o := .cells #[.int .i64 (wrap64 (1 + t147)), .int .i64 (wrap64 (1 + t149))] 63 (0, 0)) (by (with_reducible repeat (first | refine blk_drewN ?_ _ | refine blk_drew ?_ | refine blk_alloc ?_ _)); refine blk_put (cs := #[.int .i64 (wrap64 (1 + t147)), .int .i64 0]) ?_ 1 _ rfl; (with_reducible repeat (first | refine blk_drewN ?_ _ | refine blk_drew ?_ | refine blk_alloc ?_ _)); refine blk_put (cs := #[.int .i64 0, .int .i64 0]) ?_ 0 _ rfl; (with_reducible repeat (first | refine blk_drewN ?_ _ | refine blk_drew ?_ | refine blk_alloc ?_ _)); exact BK151.out) NB151_0.out (by simp)); have n2_ := Aside0.mk (KeepBut.trans (by repeat (first | (with_reducible first | exact HK.out | apply KeepBut.set_ | apply keep_drewN | apply keep_drew | apply keep_alloc | refine keep_far ?_ GW146.out _ | refine keep_far ?_ GW151.out _) | exact HK.out)) hk (.inl rfl)); have n3_ := Aside0.mk (hb); have n4_ := Aside0.mk (hi); clear BK146 BK151 HK HB HI0; have BK146 := n0_; have BK151 := n1_; have HK := n2_; have HB := n3_; have HI0 := n4_; clear n0_ n1_ n2_ n3_ n4_; (try clear hb); (try clear hb2); (try clear hk); (try clear hi); have hcz55_0 : w54.cell? ⟨gb151, 0, none⟩ = some (.int .i64 (wrap64 (1 + t147))) := (blk_cell BK151.out 0).trans rfl; have hcz55_1 : w54.cell? ⟨gb151, 1, none⟩ = some (.int .i64 (wrap64 (1 + t149))) := (blk_cell BK151.out 1).trans rfl; have hfz55_0 := blk_frozen BK151.out 0; have hfz55_1 := blk_frozen BK151.out 1; have hnb56 := NB146_0.out; have hnc56 := NB0_146.out; have hcz57_0 : w54.cell? ⟨gb146, 0, none⟩ = some (.int .i64 0) := (blk_cell BK146.out 0).trans rfl; have hcz57_1 : w54.cell? ⟨gb146, 1, none⟩ = some (.int .i64 0) := (blk_cell BK146.out 1).trans rfl; have hfz57_0 := blk_frozen BK146.out 0; have hfz57_1 := blk_frozen BK146.out 1; have TK5_ := Aside0.mk trivial))
  refine bodyPost_ret (results_cell_row rfl _ _ gb146 63 #[.int .i64 (wrap64 (1 + t147)), .int .i64 (wrap64 (1 + t149))] (0, 0) _ rfl (by (with_reducible repeat (first | refine blk_drewN ?_ _ | refine blk_drew ?_ | refine blk_alloc ?_ _)); refine blk_put (cs := #[.int .i64 (wrap64 (1 + t147)), .int .i64 0]) ?_ 1 _ rfl; (with_reducible repeat (first | refine blk_drewN ?_ _ | refine blk_drew ?_ | refine blk_alloc ?_ _)); refine blk_put (cs := #[.int .i64 0, .int .i64 0]) ?_ 0 _ rfl; (with_reducible repeat (first | refine blk_drewN ?_ _ | refine blk_drew ?_ | refine blk_alloc ?_ _)); exact BK146.out) Tryd.underlying63 rfl (by kernel_rfl)) rfl ?_
  exact ⟨by first | rfl | (simp [errW_none, errW_some] <;> rfl) | (simp [*, errW_none, errW_some] <;> rfl), by repeat (first | (with_reducible first | exact HI0.out | apply IsS133.alloc | apply IsS133.drewN | apply IsS133.drew | apply IsS133.set_1 | refine IsS133.far ?_ NB0_146.out _ | refine IsS133.far ?_ NB0_151.out _) | exact HI0.out), by repeat (first | (with_reducible first | exact HB.out | apply below_alloc | apply pw_below_drewN | apply below_drew1 | refine below_set ?_ (IsS133.ge HI0.out) | refine below_set ?_ GE146.out | refine below_set ?_ GE151.out) | exact HB.out), by repeat (first | (with_reducible first | exact HK.out | apply KeepBut.set_ | apply keep_drewN | apply keep_drew | apply keep_alloc | refine keep_far ?_ GW146.out _ | refine keep_far ?_ GW151.out _) | exact HK.out)⟩

/-! ### spec_DrawRelayValid: function 45 -/
def spec_DrawRelayValid.f (k : Nat) (l0 : List Int) : Option (Int × Int) := (spec_l20Open.f l0).bind fun bt169 => ((spec_l20Relay.f k bt169.1 bt169.2 2).bind fun bt172 => (some (bt172.1, bt172.2.1)))
theorem spec_DrawRelayValid.mono : ∀ a0 k, LeO (spec_DrawRelayValid.f k a0) (spec_DrawRelayValid.f (k + 1) a0) := by
 intro a0 k
 unfold spec_DrawRelayValid.f
 repeat' first
   | (with_reducible exact spec_l20Relay.mono _ _ _ _)
   | (with_reducible exact LeO.refl _)
   | (with_reducible exact LeO.none _)
   | (with_reducible refine LeO.ite ?_ ?_)
   | (with_reducible refine LeO.bind ?_ (fun _ => ?_))
   | exact spec_l20Relay.mono _ _ _ _
   | exact LeO.none _
   | refine LeO.ite ?_ ?_
   | refine LeO.bind ?_ (fun _ => ?_)
set_option maxHeartbeats 8000000 in
set_option maxRecDepth 100000 in
theorem spec_DrawRelayValid.calls (k : Nat) (A0 : Option Addr) (c0 : Nat) (l0 : List Int) (r1 : Int) (r2 : Int) (w : World) (hr0 : Kd.C (Kd.int .u8) w A0 l0.length l0) (hc0 : l0.length ≤ c0) (h : spec_DrawRelayValid.f k l0 = some (r1, r2)) :
  Calls Tryd.prog 45 #[.slice A0 l0.length c0] w fun e w' => e = .returned (.agg #[.int .i64 r1, .int .i64 r2]) ∧ Below w.heap.size w w' := by
 have hu63 := Tryd.underlying63
 have HR0 := Aside0.mk hr0
 have HC0 := Aside0.mk hc0
 clear hr0 hc0
 have HB := Aside0.mk (Below.refl w.heap.size w)
 have H : ((spec_l20Open.f l0).bind fun bt169 => ((spec_l20Relay.f k bt169.1 bt169.2 2).bind fun bt172 => (some (bt172.1, bt172.2.1)))) = some (r1, r2) := h
 clear h
 replace H := Option.bind_eq_some_iff.mp H
 obtain ⟨⟨t169, t170⟩, A20, H⟩ := H
 replace H : ((spec_l20Relay.f k t169 t170 2).bind fun bt172 => (some (bt172.1, bt172.2.1))) = some (r1, r2) := H
 have A2 := Aside0.mk A20
 clear A20
 replace H := Option.bind_eq_some_iff.mp H
 obtain ⟨⟨t172, t173, t174⟩, A30, H⟩ := H
 replace H : (some (t172, t173)) = some (r1, r2) := H
 have A3 := Aside0.mk A30
 clear A30
 simp only [Option.some.injEq, Prod.mk.injEq] at H
 obtain ⟨rfl, rfl⟩ := H
 go_enter Tryd.func45, Tryd.ntmps45
 have TK0_ := Aside0.mk trivial
 go_wp2_with (first | (clear TK0_; (with_reducible refine gate_dst (N := 2) rfl ?_); refine box_event ?hg (N := 2) ?hd (cs := #[.int .i64 0, .int .i64 0]) (t := 63) ?hr ?_; (case hd => rfl); (case hg => rfl); (case hr => first | (go_simp; done) | (go_simp; rfl)); intro gb168 hg w4 hbox hb; have n0_ := Aside0.mk (below_step bw hb); have n1_ := Aside0.mk (hbox); have n2_ := Aside0.mk ((by rw [hg]; exact (below_size bw) : w.heap.size ≤ gb168)); have n3_ := Aside0.mk ((by rw [hg]; exact (below_size bw) : w.heap.size ≤ gb168)); clear HB; have HB := n0_; have BK168 := n1_; have GW168 := n2_; have GE168 := n3_; clear n0_ n1_ n2_ n3_; clear hb hbox hg; have TK1_ := Aside0.mk trivial) | (clear TK1_; (with_reducible refine gate_callee (f := 68) rfl ?_); refine goesL_ (some 4) rfl rfl Tryd.func68 (by kernel_rfl) rfl #[.slice A0 l0.length c0] rfl (by (try simp only [List.map_toArray, List.map_cons, List.map_nil]); first | done | rfl | (simp only [List.length_drop, List.length_take]; rfl)) ?_; (with_reducible refine (spec_l20Open.calls _ _ l0 t169 t170 w _ ?side1 ?side2 ?side3 A2.out).mono ?_); (case side1 => exact bw); (case side2 => exact HR0.out); (case side3 => exact HC0.out); rintro e w5 ⟨g171, rfl, hi, hb, hb2⟩; refine ⟨_, rfl, ?_⟩; have n0_ := Aside0.mk (blk_below (g := gb168) (o := .cells #[.int .i64 0, .int .i64 0] 63 (0, 0)) (bk BK168) hb2); have n1_ := Aside0.mk (hb); have n2_ := Aside0.mk (hi); have n3_ := Aside0.mk (IsS133.ne_blk hi (blk_below (g := gb168) (o := .cells #[.int .i64 0, .int .i64 0] 63 (0, 0)) (bk BK168) hb2) (by decide)); have n4_ := Aside0.mk (Ne.symm (IsS133.ne_blk hi (blk_below (g := gb168) (o := .cells #[.int .i64 0, .int .i64 0] 63 (0, 0)) (bk BK168) hb2) (by decide))); clear BK168 HB; have BK168 := n0_; have HB := n1_; have HI171 := n2_; have NB171_168 := n3_; have NB168_171 := n4_; clear n0_ n1_ n2_ n3_ n4_; (try clear hb); (try clear hb2); (try clear hk); (try clear hi); have TK2_ := Aside0.mk trivial) | (clear TK2_; (with_reducible refine gate_callee (f := 101) rfl ?_); refine goesL_ (some 5) rfl rfl Tryd.func101 (by kernel_rfl) rfl #[.pointer (some ⟨g171, 0, none⟩), .int .i64 2] rfl (by (try simp only [List.map_toArray, List.map_cons, List.map_nil]); first | done | rfl | (simp only [List.length_drop, List.length_take]; rfl)) ?_; (with_reducible refine (spec_l20Relay.calls k g171 t169 t170 2 t172 t173 t174 w _ ?side1 ?side2 A3.out).mono ?_); (case side1 => repeat (first | (with_reducible first | exact HI171.out | apply IsS133.alloc | apply IsS133.drewN | apply IsS133.drew | apply IsS133.set_1 | refine IsS133.far ?_ NB171_168.out _) | exact HI171.out)); (case side2 => repeat (first | (with_reducible first | exact HB.out | apply below_alloc | apply pw_below_drewN | apply below_drew1 | refine below_set ?_ (IsS133.ge HI171.out) | refine below_set ?_ GE168.out) | exact HB.out)); rintro e w6 ⟨rfl, hi, hb, hk⟩; refine ⟨_, rfl, ?_⟩; have n0_ := Aside0.mk (KeepBut.blk hk (g' := gb168) (o := .cells #[.int .i64 0, .int .i64 0] 63 (0, 0)) (bk BK168) NB168_171.out (by simp)); have n1_ := Aside0.mk (hb); have n2_ := Aside0.mk (hi); clear BK168 HB HI171; have BK168 := n0_; have HB := n1_; have HI171 := n2_; clear n0_ n1_ n2_; (try clear hb); (try clear hb2); (try clear hk); (try clear hi); have hnb7 := NB168_171.out; have hnc7 := NB171_168.out; have hcz8_0 : w6.cell? ⟨gb168, 0, none⟩ = some (.int .i64 0) := (blk_cell BK168.out 0).trans rfl; have hcz8_1 : w6.cell? ⟨gb168, 1, none⟩ = some (.int .i64 0) := (blk_cell BK168.out 1).trans rfl; have hfz8_0 := blk_frozen BK168.out 0; have hfz8_1 := blk_frozen BK168.out 1; have TK3_ := Aside0.mk trivial))
 refine bodyPost_ret (results_cell_row rfl _ _ gb168 63 #[.int .i64 t172, .int .i64 t173] (0, 0) _ rfl (by (with_reducible repeat (first | refine blk_drewN ?_ _ | refine blk_drew ?_ | refine blk_alloc ?_ _)); refine blk_put (cs := #[.int .i64 t172, .int .i64 0]) ?_ 1 _ rfl; (with_reducible repeat (first | refine blk_drewN ?_ _ | refine blk_drew ?_ | refine blk_alloc ?_ _)); refine blk_put (cs := #[.int .i64 0, .int .i64 0]) ?_ 0 _ rfl; (with_reducible repeat (first | refine blk_drewN ?_ _ | refine blk_drew ?_ | refine blk_alloc ?_ _)); exact BK168.out) Tryd.underlying63 rfl (by kernel_rfl)) rfl ?_
 exact ⟨by first | rfl | (simp [errW_none, errW_some] <;> rfl) | (simp [*, errW_none, errW_some] <;> rfl), by repeat (first | (with_reducible first | exact HB.out | apply below_alloc | apply pw_below_drewN | apply below_drew1 | refine below_set ?_ (IsS133.ge HI171.out) | refine below_set ?_ GE168.out) | exact HB.out)⟩

/-! ### impl_RelayValid: function 46 -/
def impl_RelayValid.f (a0_0 : Int) (a0_1 : Int) : Option (Bool) := if a0_0 ≥ 1 then (if a0_0 ≤ 400 then (if a0_1 ≥ 1 then (some (decide (a0_1 ≤ 60))) else (some false)) else (some false)) else (some false)
set_option maxHeartbeats 8000000 in
set_option maxRecDepth 100000 in
theorem impl_RelayValid.calls (a0_0 : Int) (a0_1 : Int) (r : Bool) (w : World) (h : impl_RelayValid.f a0_0 a0_1 = some r) :
  Calls Tryd.prog 46 #[.agg #[.int .i64 a0_0, .int .i64 a0_1]] w fun e w' => e = .returned (.bool r) ∧ Below w.heap.size w w' := by
 have hu63 := Tryd.underlying63
 have HB := Aside0.mk (Below.refl w.heap.size w)
 have H : (if a0_0 ≥ 1 then (if a0_0 ≤ 400 then (if a0_1 ≥ 1 then (some (decide (a0_1 ≤ 60))) else (some false)) else (some false)) else (some false)) = some r := h
 clear h
 by_cases c2 : a0_0 ≥ 1
 ·rw [if_pos c2] at H
  have c2b0 : decide (1 ≤ a0_0) = true := decide_eq_true c2
  clear c2
  by_cases c3 : a0_0 ≤ 400
  ·rw [if_pos c3] at H
   have c3b0 : decide (a0_0 ≤ 400) = true := decide_eq_true c3
   clear c3
   by_cases c4 : a0_1 ≥ 1
   ·rw [if_pos c4] at H
    have c4b0 : decide (1 ≤ a0_1) = true := decide_eq_true c4
    clear c4
    obtain rfl := Option.some.inj H
    go_enter Tryd.func46, Tryd.ntmps46
    go_wp2_with (first | ((with_reducible refine gate_dst (N := 1) rfl ?_); refine box_event ?hg (N := 1) ?hd (cs := #[.int .i64 a0_0, .int .i64 a0_1]) (t := 63) ?hr ?_; (case hd => rfl); (case hg => rfl); (case hr => first | (go_simp; done) | (go_simp; rfl)); intro gb175 hg w5 hbox hb; have n0_ := Aside0.mk (below_step bw hb); have n1_ := Aside0.mk (hbox); have n2_ := Aside0.mk ((by rw [hg]; exact (below_size bw) : w.heap.size ≤ gb175)); have n3_ := Aside0.mk ((by rw [hg]; exact (below_size bw) : w.heap.size ≤ gb175)); clear HB; have HB := n0_; have BK175 := n1_; have GW175 := n2_; have GE175 := n3_; clear n0_ n1_ n2_ n3_; clear hb hbox hg; have hcz6_0 : w5.cell? ⟨gb175, 0, none⟩ = some (.int .i64 a0_0) := (blk_cell BK175.out 0).trans rfl; have hcz6_1 : w5.cell? ⟨gb175, 1, none⟩ = some (.int .i64 a0_1) := (blk_cell BK175.out 1).trans rfl; have hfz6_0 := blk_frozen BK175.out 0; have hfz6_1 := blk_frozen BK175.out 1))
    go_ret
    exact ⟨by first | rfl | (simp [errW_none, errW_some] <;> rfl) | (simp [*, errW_none, errW_some] <;> rfl), bw⟩
   ·rw [if_neg c4] at H
    have c4b0 : decide (1 ≤ a0_1) = false := decide_eq_false c4
    clear c4
    obtain rfl := Option.some.inj H
    go_enter Tryd.func46, Tryd.ntmps46
    go_wp2_with (first | ((with_reducible refine gate_dst (N := 1) rfl ?_); refine box_event ?hg (N := 1) ?hd (cs := #[.int .i64 a0_0, .int .i64 a0_1]) (t := 63) ?hr ?_; (case hd => rfl); (case hg => rfl); (case hr => first | (go_simp; done) | (go_simp; rfl)); intro gb175 hg w7 hbox hb; have n0_ := Aside0.mk (below_step bw hb); have n1_ := Aside0.mk (hbox); have n2_ := Aside0.mk ((by rw [hg]; exact (below_size bw) : w.heap.size ≤ gb175)); have n3_ := Aside0.mk ((by rw [hg]; exact (below_size bw) : w.heap.size ≤ gb175)); clear HB; have HB := n0_; have BK175 := n1_; have GW175 := n2_; have GE175 := n3_; clear n0_ n1_ n2_ n3_; clear hb hbox hg; have hcz8_0 : w7.cell? ⟨gb175, 0, none⟩ = some (.int .i64 a0_0) := (blk_cell BK175.out 0).trans rfl; have hcz8_1 : w7.cell? ⟨gb175, 1, none⟩ = some (.int .i64 a0_1) := (blk_cell BK175.out 1).trans rfl; have hfz8_0 := blk_frozen BK175.out 0; have hfz8_1 := blk_frozen BK175.out 1))
    go_ret
    exact ⟨by first | rfl | (simp [errW_none, errW_some] <;> rfl) | (simp [*, errW_none, errW_some] <;> rfl), bw⟩
  ·rw [if_neg c3] at H
   have c3b0 : decide (a0_0 ≤ 400) = false := decide_eq_false c3
   clear c3
   obtain rfl := Option.some.inj H
   go_enter Tryd.func46, Tryd.ntmps46
   go_wp2_with (first | ((with_reducible refine gate_dst (N := 1) rfl ?_); refine box_event ?hg (N := 1) ?hd (cs := #[.int .i64 a0_0, .int .i64 a0_1]) (t := 63) ?hr ?_; (case hd => rfl); (case hg => rfl); (case hr => first | (go_simp; done) | (go_simp; rfl)); intro gb175 hg w9 hbox hb; have n0_ := Aside0.mk (below_step bw hb); have n1_ := Aside0.mk (hbox); have n2_ := Aside0.mk ((by rw [hg]; exact (below_size bw) : w.heap.size ≤ gb175)); have n3_ := Aside0.mk ((by rw [hg]; exact (below_size bw) : w.heap.size ≤ gb175)); clear HB; have HB := n0_; have BK175 := n1_; have GW175 := n2_; have GE175 := n3_; clear n0_ n1_ n2_ n3_; clear hb hbox hg; have hcz10_0 : w9.cell? ⟨gb175, 0, none⟩ = some (.int .i64 a0_0) := (blk_cell BK175.out 0).trans rfl; have hcz10_1 : w9.cell? ⟨gb175, 1, none⟩ = some (.int .i64 a0_1) := (blk_cell BK175.out 1).trans rfl; have hfz10_0 := blk_frozen BK175.out 0; have hfz10_1 := blk_frozen BK175.out 1))
   go_ret
   exact ⟨by first | rfl | (simp [errW_none, errW_some] <;> rfl) | (simp [*, errW_none, errW_some] <;> rfl), bw⟩
 ·rw [if_neg c2] at H
  have c2b0 : decide (1 ≤ a0_0) = false := decide_eq_false c2
  clear c2
  obtain rfl := Option.some.inj H
  go_enter Tryd.func46, Tryd.ntmps46
  go_wp2_with (first | ((with_reducible refine gate_dst (N := 1) rfl ?_); refine box_event ?hg (N := 1) ?hd (cs := #[.int .i64 a0_0, .int .i64 a0_1]) (t := 63) ?hr ?_; (case hd => rfl); (case hg => rfl); (case hr => first | (go_simp; done) | (go_simp; rfl)); intro gb175 hg w11 hbox hb; have n0_ := Aside0.mk (below_step bw hb); have n1_ := Aside0.mk (hbox); have n2_ := Aside0.mk ((by rw [hg]; exact (below_size bw) : w.heap.size ≤ gb175)); have n3_ := Aside0.mk ((by rw [hg]; exact (below_size bw) : w.heap.size ≤ gb175)); clear HB; have HB := n0_; have BK175 := n1_; have GW175 := n2_; have GE175 := n3_; clear n0_ n1_ n2_ n3_; clear hb hbox hg; have hcz12_0 : w11.cell? ⟨gb175, 0, none⟩ = some (.int .i64 a0_0) := (blk_cell BK175.out 0).trans rfl; have hcz12_1 : w11.cell? ⟨gb175, 1, none⟩ = some (.int .i64 a0_1) := (blk_cell BK175.out 1).trans rfl; have hfz12_0 := blk_frozen BK175.out 0; have hfz12_1 := blk_frozen BK175.out 1))
  go_ret
  exact ⟨by first | rfl | (simp [errW_none, errW_some] <;> rfl) | (simp [*, errW_none, errW_some] <;> rfl), bw⟩

/-! ### spec_l1In: function 76 -/
def spec_l1In.f (a0 : Int) (a1 : Int) (a2 : Int) : Option (Bool) := if a0 ≥ a1 then (some (decide (a0 ≤ a2))) else (some false)
set_option maxHeartbeats 8000000 in
set_option maxRecDepth 100000 in
theorem spec_l1In.calls (a0 : Int) (a1 : Int) (a2 : Int) (r : Bool) (w : World) (h : spec_l1In.f a0 a1 a2 = some r) :
  Calls Tryd.prog 76 #[.int .i64 a0, .int .i64 a1, .int .i64 a2] w fun e w' => e = .returned (.bool r) ∧ Drawn0 w w' := by
 have H : (if a0 ≥ a1 then (some (decide (a0 ≤ a2))) else (some false)) = some r := h
 clear h
 by_cases c4 : a0 ≥ a1
 ·rw [if_pos c4] at H
  have c4b0 : decide (a1 ≤ a0) = true := decide_eq_true c4
  clear c4
  obtain rfl := Option.some.inj H
  go_enter Tryd.func76, Tryd.ntmps76
  go_wp2
  go_ret
  exact ⟨by first | rfl | (simp; done) | (simp [*]; done), by repeat (first | exact Drawn0.refl _ | apply Drawn0.step)⟩
 ·rw [if_neg c4] at H
  have c4b0 : decide (a1 ≤ a0) = false := decide_eq_false c4
  clear c4
  obtain rfl := Option.some.inj H
  go_enter Tryd.func76, Tryd.ntmps76
  go_wp2
  go_ret
  exact ⟨by first | rfl | (simp; done) | (simp [*]; done), by repeat (first | exact Drawn0.refl _ | apply Drawn0.step)⟩

/-! ### spec_RelayValid: function 47 -/
def spec_RelayValid.f (a0_0 : Int) (a0_1 : Int) : Option (Bool) := (spec_l1In.f a0_0 1 400).bind fun t177 => (if t177 = true then ((spec_l1In.f a0_1 1 60).bind fun t178 => (some t178)) else (some false))
set_option maxHeartbeats 8000000 in
set_option maxRecDepth 100000 in
theorem spec_RelayValid.calls (a0_0 : Int) (a0_1 : Int) (r : Bool) (w : World) (h : spec_RelayValid.f a0_0 a0_1 = some r) :
  Calls Tryd.prog 47 #[.agg #[.int .i64 a0_0, .int .i64 a0_1]] w fun e w' => e = .returned (.bool r) ∧ Below w.heap.size w w' := by
 have hu63 := Tryd.underlying63
 have HB := Aside0.mk (Below.refl w.heap.size w)
 have H : ((spec_l1In.f a0_0 1 400).bind fun t177 => (if t177 = true then ((spec_l1In.f a0_1 1 60).bind fun t178 => (some t178)) else (some false))) = some r := h
 clear h
 replace H := Option.bind_eq_some_iff.mp H
 obtain ⟨t177, A20, H⟩ := H
 replace H : (if t177 = true then ((spec_l1In.f a0_1 1 60).bind fun t178 => (some t178)) else (some false)) = some r := H
 have A2 := Aside0.mk A20
 clear A20
 by_cases c3 : t177 = true
 ·subst c3
  have H1 : ((spec_l1In.f a0_1 1 60).bind fun t178 => (some t178)) = some r := by rw [if_pos rfl] at H; exact H
  clear H
  have H := H1
  clear H1
  replace H := Option.bind_eq_some_iff.mp H
  obtain ⟨t178, A40, H⟩ := H
  replace H : (some t178) = some r := H
  have A4 := Aside0.mk A40
  clear A40
  obtain rfl := Option.some.inj H
  go_enter Tryd.func47, Tryd.ntmps47
  have TK0_ := Aside0.mk trivial
  go_wp2_with (first | (clear TK0_; (with_reducible refine gate_dst (N := 1) rfl ?_); refine box_event ?hg (N := 1) ?hd (cs := #[.int .i64 a0_0, .int .i64 a0_1]) (t := 63) ?hr ?_; (case hd => rfl); (case hg => rfl); (case hr => first | (go_simp; done) | (go_simp; rfl)); intro gb176 hg w5 hbox hb; have n0_ := Aside0.mk (below_step bw hb); have n1_ := Aside0.mk (hbox); have n2_ := Aside0.mk ((by rw [hg]; exact (below_size bw) : w.heap.size ≤ gb176)); have n3_ := Aside0.mk ((by rw [hg]; exact (below_size bw) : w.heap.size ≤ gb176)); clear HB; have HB := n0_; have BK176 := n1_; have GW176 := n2_; have GE176 := n3_; clear n0_ n1_ n2_ n3_; clear hb hbox hg; have hcz6_0 : w5.cell? ⟨gb176, 0, none⟩ = some (.int .i64 a0_0) := (blk_cell BK176.out 0).trans rfl; have hcz6_1 : w5.cell? ⟨gb176, 1, none⟩ = some (.int .i64 a0_1) := (blk_cell BK176.out 1).trans rfl; have hfz6_0 := blk_frozen BK176.out 0; have hfz6_1 := blk_frozen BK176.out 1; have TK1_ := Aside0.mk trivial) | (clear TK1_; (with_reducible refine gate_callee (f := 76) rfl ?_); refine goesL_ (some 5) rfl rfl Tryd.func76 (by kernel_rfl) rfl #[.int .i64 a0_0, .int .i64 1, .int .i64 400] rfl (by (try simp only [List.map_toArray, List.map_cons, List.map_nil]); first | done | rfl | (simp only [List.length_drop, List.length_take]; rfl)) ?_; (with_reducible refine (spec_l1In.calls a0_0 1 400 true _ A2.out).mono ?_); rintro e w' ⟨rfl, ⟨nd, rfl⟩⟩; refine ⟨_, rfl, ?_⟩; have TK2_ := Aside0.mk trivial) | (clear TK2_; go_at_call 76; (with_reducible refine (spec_l1In.calls a0_1 1 60 t178 _ A4.out).mono ?_); rintro e w' ⟨rfl, ⟨nd, rfl⟩⟩; have TK3_ := Aside0.mk trivial))
  go_ret
  exact ⟨by first | rfl | (simp [errW_none, errW_some] <;> rfl) | (simp [*, errW_none, errW_some] <;> rfl), bw⟩
 ·replace c3 := Bool.eq_false_iff.mpr c3
  subst c3
  have H1 : (some false) = some r := by rw [if_neg (show ¬ (false = true) by decide)] at H; exact H
  clear H
  have H := H1
  clear H1
  obtain rfl := Option.some.inj H
  go_enter Tryd.func47, Tryd.ntmps47
  go_wp2_with (first | ((with_reducible refine gate_dst (N := 1) rfl ?_); refine box_event ?hg (N := 1) ?hd (cs := #[.int .i64 a0_0, .int .i64 a0_1]) (t := 63) ?hr ?_; (case hd => rfl); (case hg => rfl); (case hr => first | (go_simp; done) | (go_simp; rfl)); intro gb176 hg w7 hbox hb; have n0_ := Aside0.mk (below_step bw hb); have n1_ := Aside0.mk (hbox); have n2_ := Aside0.mk ((by rw [hg]; exact (below_size bw) : w.heap.size ≤ gb176)); have n3_ := Aside0.mk ((by rw [hg]; exact (below_size bw) : w.heap.size ≤ gb176)); clear HB; have HB := n0_; have BK176 := n1_; have GW176 := n2_; have GE176 := n3_; clear n0_ n1_ n2_ n3_; clear hb hbox hg; have hcz8_0 : w7.cell? ⟨gb176, 0, none⟩ = some (.int .i64 a0_0) := (blk_cell BK176.out 0).trans rfl; have hcz8_1 : w7.cell? ⟨gb176, 1, none⟩ = some (.int .i64 a0_1) := (blk_cell BK176.out 1).trans rfl; have hfz8_0 := blk_frozen BK176.out 0; have hfz8_1 := blk_frozen BK176.out 1) | ((with_reducible refine gate_callee (f := 76) rfl ?_); refine goesL_ (some 5) rfl rfl Tryd.func76 (by kernel_rfl) rfl #[.int .i64 a0_0, .int .i64 1, .int .i64 400] rfl (by (try simp only [List.map_toArray, List.map_cons, List.map_nil]); first | done | rfl | (simp only [List.length_drop, List.length_take]; rfl)) ?_; (with_reducible refine (spec_l1In.calls a0_0 1 400 false _ A2.out).mono ?_); rintro e w' ⟨rfl, ⟨nd, rfl⟩⟩; refine ⟨_, rfl, ?_⟩))
  go_ret
  exact ⟨by first | rfl | (simp [errW_none, errW_some] <;> rfl) | (simp [*, errW_none, errW_some] <;> rfl), bw⟩

end Go.Proofs.YtoajkfhjgnonjaaDoor.G
