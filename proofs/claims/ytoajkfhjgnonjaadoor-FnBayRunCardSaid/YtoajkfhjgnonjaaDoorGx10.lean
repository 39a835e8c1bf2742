-- Printed by wip/gen.py of this session's repo, over the kit's print.py. Not trusted: Lean checks it.
import Derived.Test.YtoajkfhjgnonjaaDoorGx0
import Derived.Test.YtoajkfhjgnonjaaDoorSq
import Derived.Test.YtoajkfhjgnonjaaDoorGx7
namespace Go.Proofs.YtoajkfhjgnonjaaDoor.G
open Go.RowKit Go.Proofs.YtoajkfhjgnonjaaDoorW.PrintWords Go.Proofs.YtoajkfhjgnonjaaDoorW.PrintLast Go.Proofs.YtoajkfhjgnonjaaDoorW.PrintMore Go.Proofs.YtoajkfhjgnonjaaDoor.Sq
attribute [local go_sem] max2_int min2_int max_two min_two max_three min_three max_four min_four   -- for this text's walks alone
set_option linter.unusedVariables false
set_option linter.unusedSimpArgs false

/-! ### spec_BayRun: function 66 -/
def spec_BayRun.l0 : Nat → List Int → Int → Bool → Bool → Bool → Bool → Option (Bool × Bool × Bool × Bool × Int)
 | 0, _, _, _, _, _, _ => none
 | k + 1, x1, x6, x410000, x410001, x410002, x410003 => if x6 < (x1.length : Int) then (if 0 ≤ x6 then ((spec_BayDo.f x410000 x410001 x410002 x410003 (rd x1 x6)).bind fun bt412 => (if bt412.2.2.2.2 = true then (spec_BayRun.l0 k x1 (wrap64 (x6 + 1)) bt412.1 bt412.2.1 bt412.2.2.1 bt412.2.2.2.1) else (some (x410000, x410001, x410002, x410003, x6)))) else (none)) else (some (x410000, x410001, x410002, x410003, (x1.length : Int)))
def spec_BayRun.f (k : Nat) (a0_0 : Bool) (a0_1 : Bool) (a0_2 : Bool) (a0_3 : Bool) (l1 : List Int) : Option (Bool × Bool × Bool × Bool × Int) := spec_BayRun.l0 k l1 0 a0_0 a0_1 a0_2 a0_3
theorem spec_BayRun.mono_l : ∀ k, (∀ y0 y1 y2 y3 y4 y5, LeO (spec_BayRun.l0 k y0 y1 y2 y3 y4 y5) (spec_BayRun.l0 (k + 1) y0 y1 y2 y3 y4 y5))
 | 0 => fun _ _ _ _ _ _ r h => by simp [spec_BayRun.l0] at h
 | k + 1 => by
  have ih0 := spec_BayRun.mono_l k
  ·intro y0 y1 y2 y3 y4 y5
   unfold spec_BayRun.l0
   repeat' first
   | (with_reducible exact ih0 _ _ _ _ _ _)
   | (with_reducible exact LeO.refl _)
   | (with_reducible exact LeO.none _)
   | (with_reducible refine LeO.ite ?_ ?_)
   | (with_reducible refine LeO.bind ?_ (fun _ => ?_))
   | exact ih0 _ _ _ _ _ _
   | exact LeO.none _
   | refine LeO.ite ?_ ?_
   | refine LeO.bind ?_ (fun _ => ?_)
theorem spec_BayRun.mono : ∀ a0 a1 a2 a3 a4 k, LeO (spec_BayRun.f k a0 a1 a2 a3 a4) (spec_BayRun.f (k + 1) a0 a1 a2 a3 a4) := by
 intro a0 a1 a2 a3 a4 k
 have ih0 := spec_BayRun.mono_l k
 unfold spec_BayRun.f
 repeat' first
   | (with_reducible exact ih0 _ _ _ _ _ _)
   | (with_reducible exact LeO.refl _)
   | (with_reducible exact LeO.none _)
   | (with_reducible refine LeO.ite ?_ ?_)
   | (with_reducible refine LeO.bind ?_ (fun _ => ?_))
   | exact ih0 _ _ _ _ _ _
   | exact LeO.none _
   | refine LeO.ite ?_ ?_
   | refine LeO.bind ?_ (fun _ => ?_)
def spec_BayRun.T4 : Bool × List (List Nat × List Nat) := (true, [([], []), ([], []), ([], []), ([1, 2], [1, 2]), ([3], [3]), ([0, 4], [0, 4]), ([5], [5]), ([6], [6]), ([6], [6]), ([], []), ([9, 7, 5, 0, 1, 2, 3, 4, 5, 6, 7, 9], [7, 9]), ([8, 10, 0, 1, 2, 3, 4, 5, 6, 7, 8, 9, 10], [8])])
def spec_BayRun.B4 : List Nat := [0, 0, 0, 6, 14, 31, 63, 127, 127, 0, 767, 2047]
theorem spec_BayRun.tab4 : rtab .any (opsOf Tryd.f66 4) = spec_BayRun.T4 := by kernel_rfl
theorem spec_BayRun.bits4 : waitsOk spec_BayRun.T4.2 spec_BayRun.B4 = true := by kernel_rfl
set_option maxHeartbeats 8000000 in
set_option maxRecDepth 100000 in
theorem spec_BayRun.calls (k : Nat) (a0_0 : Bool) (a0_1 : Bool) (a0_2 : Bool) (a0_3 : Bool) (A1 : Option Addr) (c1 : Nat) (l1 : List Int) (r1 : Bool) (r2 : Bool) (r3 : Bool) (r4 : Bool) (r5 : Int) (w : World) (hr1 : Kd.C (Kd.int .i64) w A1 l1.length l1) (hc1 : l1.length ≤ c1) (h : spec_BayRun.f k a0_0 a0_1 a0_2 a0_3 l1 = some (r1, r2, r3, r4, r5)) :
  Calls Tryd.prog 66 #[.agg #[.bool a0_0, .bool a0_1, .bool a0_2, .bool a0_3], .slice A1 l1.length c1] w fun e w' => e = .returned (.tuple #[.agg #[.bool r1, .bool r2, .bool r3, .bool r4], .int .i64 r5]) ∧ Below w.heap.size w w' := by
 have hu59 := Tryd.underlying59
 have HR1 := Aside0.mk hr1
 have HC1 := Aside0.mk hc1
 clear hr1 hc1
 have HB := Aside0.mk (Below.refl w.heap.size w)
 have H : (spec_BayRun.l0 k l1 0 a0_0 a0_1 a0_2 a0_3) = some (r1, r2, r3, r4, r5) := h
 clear h
 have H' := Aside0.mk H
 clear H
 go_enter Tryd.func66, Tryd.ntmps66
 go_wp2_with (first | ((with_reducible refine gate_dst (N := 2) rfl ?_); refine box_event ?hg (N := 2) ?hd (cs := #[.bool a0_0, .bool a0_1, .bool a0_2, .bool a0_3]) (t := 59) ?hr ?_; (case hd => rfl); (case hg => rfl); (case hr => first | (go_simp; done) | (go_simp; rfl)); intro gb409 hg w3 hbox hb; have n0_ := Aside0.mk (below_step bw hb); have n1_ := Aside0.mk (hbox); have n2_ := Aside0.mk ((by rw [hg]; exact (below_size bw) : w.heap.size ≤ gb409)); have n3_ := Aside0.mk ((by rw [hg]; exact (below_size bw) : w.heap.size ≤ gb409)); clear HB; have HB := n0_; have BK409 := n1_; have GW409 := n2_; have GE409 := n3_; clear n0_ n1_ n2_ n3_; clear hb hbox hg) | ((with_reducible refine gate_dst (N := 4) rfl ?_); refine box_event ?hg (N := 4) ?hd (cs := #[.bool false, .bool false, .bool false, .bool false]) (t := 59) ?hr ?_; (case hd => rfl); (case hg => rfl); (case hr => first | (go_simp; done) | (go_simp; rfl)); intro gb410 hg w4 hbox hb; have n0_ := bkB BK409 hb; have n1_ := Aside0.mk (below_step bw hb); have n2_ := Aside0.mk (hbox); have n3_ := Aside0.mk ((by rw [hg]; exact (below_size bw) : w.heap.size ≤ gb410)); have n4_ := Aside0.mk ((by rw [hg]; exact (below_size bw) : w.heap.size ≤ gb410)); have n5_ := Aside0.mk ((by rw [hg]; exact Nat.ne_of_lt (blk_lt (g := gb409) (o := .cells #[.bool a0_0, .bool a0_1, .bool a0_2, .bool a0_3] 59 (0, 0)) (bk BK409)) : gb409 ≠ gb410)); have n6_ := Aside0.mk ((by rw [hg]; exact Nat.ne_of_gt (blk_lt (g := gb409) (o := .cells #[.bool a0_0, .bool a0_1, .bool a0_2, .bool a0_3] 59 (0, 0)) (bk BK409)) : gb410 ≠ gb409)); clear BK409 HB; have BK409 := n0_; have HB := n1_; have BK410 := n2_; have GW410 := n3_; have GE410 := n4_; have NB409_410 := n5_; have NB410_409 := n6_; clear n0_ n1_ n2_ n3_ n4_ n5_ n6_; clear hb hbox hg))
 go_loopg [6] k (fun kq v6 w' => ∃ (x6_1 : Int) (x410000_1 : Bool) (x410001_1 : Bool) (x410002_1 : Bool) (x410003_1 : Bool) (x411000_1 : Bool) (x411001_1 : Bool) (x411002_1 : Bool) (x411003_1 : Bool), v6 = .int .i64 x6_1 ∧ Aside0 (spec_BayRun.l0 kq l1 x6_1 x410000_1 x410001_1 x410002_1 x410003_1 = some (r1, r2, r3, r4, r5)) ∧ Aside0 (kq ≤ k) ∧ Aside0 (w'.heap[gb409]? = some (.cells #[.bool x410000_1, .bool x410001_1, .bool x410002_1, .bool x410003_1] 59 (0, 0))) ∧ Aside0 (w'.heap[gb410]? = some (.cells #[.bool x411000_1, .bool x411001_1, .bool x411002_1, .bool x411003_1] 59 (0, 0))) ∧ Aside0 (Below w.heap.size w w'))
 case atStart => exact ⟨(0), (a0_0), (a0_1), (a0_2), (a0_3), (false), (false), (false), (false), (by first | rfl | (simp; done) | (simp [*]; done)), H', ⟨Nat.le_refl _⟩, ⟨bk BK409⟩, ⟨bk BK410⟩, ⟨bw⟩⟩
 case round =>
  clear H'
  try clear c1
  try clear p2
  obtain ⟨x6_1, x410000_1, x410001_1, x410002_1, x410003_1, x411000_1, x411001_1, x411002_1, x411003_1, rfl, HA, HK1, BK409, BK410, HB⟩ := hrel
  cases gk with
  | zero => exact absurd HA.out (by simp [spec_BayRun.l0])
  | succ k1 =>
   have H := HA.out
   clear HA
   simp only [spec_BayRun.l0] at H
   by_cases c5 : x6_1 < (l1.length : Int)
   ·rw [if_pos c5] at H
    have c5b0 : decide (x6_1 < (l1.length : Int)) = true := decide_eq_true c5
    clear c5
    by_cases c6 : 0 ≤ x6_1
    ·rw [if_pos c6] at H
     have c6b0 : decide (0 ≤ x6_1) = true := decide_eq_true c6
     clear c6
     replace H := Option.bind_eq_some_iff.mp H
     obtain ⟨⟨t412, t413, t414, t415, t416⟩, A70, H⟩ := H
     replace H : (if t416 = true then (spec_BayRun.l0 k1 l1 (wrap64 (x6_1 + 1)) t412 t413 t414 t415) else (some (x410000_1, x410001_1, x410002_1, x410003_1, x6_1))) = some (r1, r2, r3, r4, r5) := H
     have A7 := Aside0.mk A70
     clear A70
     by_cases c8 : t416 = true
     ·subst c8
      have H1 : (spec_BayRun.l0 k1 l1 (wrap64 (x6_1 + 1)) t412 t413 t414 t415) = some (r1, r2, r3, r4, r5) := by rw [if_pos rfl] at H; exact H
      clear H
      have H := H1
      clear H1
      have H' := Aside0.mk H
      clear H
      try go_wp2
      have n0_ := Aside0.mk (blk_drew BK409.out)
      have n1_ := Aside0.mk (blk_drew BK410.out)
      have n2_ := Aside0.mk (below_drew1 HB.out)
      clear BK409
      clear BK410
      clear HB
      have BK409 := n0_
      have BK410 := n1_
      have HB := n2_
      clear n0_ n1_ n2_
      have p411 : 0 ≤ (x6_1 : Int) := of_decide_eq_true (by first | (with_reducible assumption) | assumption)
      have q411 : x6_1 < (l1.length : Int) := of_decide_eq_true (by first | (with_reducible assumption) | assumption)
      obtain ⟨ad411, e411, hx411_0⟩ := Kd.at_int HR1.out x6_1 p411 q411
      have hw411_0 := hx411_0
      cases e411
      replace hx411_0 := (HB.out.cell (World.block_lt_of_cell? w _ hx411_0)).trans hx411_0
      replace p411 := eq_true p411
      replace q411 := eq_true q411
      refine start_ (n := 12) (S := fun w' => w'.cell? ⟨gb409, 0, none⟩ = some (.bool x410000_1) ∧ w'.cell? ⟨gb409, 1, none⟩ = some (.bool x410001_1) ∧ w'.cell? ⟨gb409, 2, none⟩ = some (.bool x410002_1) ∧ w'.cell? ⟨gb409, 3, none⟩ = some (.bool x410003_1) ∧ w'.cell? (ad411.add (x6_1).toNat) = some (.int .i64 (rd l1 x6_1))) (ds := []) (bz 12 0) (by kernel_rfl) rfl rfl ⟨(blk_cell BK409.out 0).trans rfl, (blk_cell BK409.out 1).trans rfl, (blk_cell BK409.out 2).trans rfl, (blk_cell BK409.out 3).trans rfl, ((HB.out.cell (World.block_lt_of_cell? w _ hw411_0)).trans hw411_0)⟩ (fun hHeld => ?_); refine with_tabW spec_BayRun.tab4 spec_BayRun.bits4 (fun HT_ HW_ => ?_)
      generalize wr.drew = w9 at BK409 BK410 HB hx411_0 hHeld ⊢
      refine pure_ (i := 1) (N := some 17) (v := ?_) (a' := ?_) (bz 12 2) rfl rfl (any_of HT_.out (by kernel_rfl)) (fun _ _ _ h => h) (Or.inl ⟨by rfl, ?_⟩) ?_ ?_
      rotate_left
      ·intro w'
       go_simp
       with_reducible rfl
      rotate_left
      ·simp only [Act.put, List.setIfInBounds_toArray, List.set_cons_zero, List.set_cons_succ, i64_w, i32_w]
       rfl
      refine pure_ (i := 2) (N := some 18) (v := ?_) (a' := ?_) (bz 12 6) rfl rfl (any_of HT_.out (by kernel_rfl)) (fun _ _ _ h => h) (Or.inl ⟨by rfl, ?_⟩) ?_ ?_
      rotate_left
      ·intro w'
       go_simp
       with_reducible rfl
      rotate_left
      ·simp only [Act.put, List.setIfInBounds_toArray, List.set_cons_zero, List.set_cons_succ, i64_w, i32_w]
       rfl
      refine pure_ (i := 3) (N := some 19) (v := ?_) (a' := ?_) (bz 12 14) rfl rfl (any_of HT_.out (by kernel_rfl)) (fun _ _ _ h => h) (Or.inl ⟨by rfl, ?_⟩) ?_ ?_
      rotate_left
      ·intro w'
       go_simp
       with_reducible rfl
      rotate_left
      ·simp only [Act.put, List.setIfInBounds_toArray, List.set_cons_zero, List.set_cons_succ, i64_w, i32_w]
       rfl
      refine take_ (i := 0) (N := some 16) (v := ?_) (a' := ?_) (bz 12 15) rfl rfl (take_ofW HT_.out HW_.out (by kernel_rfl)) (fun _ _ _ h => h) (Or.inl ⟨by rfl, ?_⟩) hHeld ?_ ?_
      rotate_left
      ·rintro w' ⟨s0, s1, s2, s3, s4⟩
       go_simp
       with_reducible rfl
      rotate_left
      ·simp only [Act.put, List.setIfInBounds_toArray, List.set_cons_zero, List.set_cons_succ, i64_w, i32_w]
       rfl
      refine take_ (i := 4) (N := some 20) (v := ?_) (a' := ?_) (bz 12 31) rfl rfl (take_ofW HT_.out HW_.out (by kernel_rfl)) (fun _ _ _ h => h) (Or.inl ⟨by rfl, ?_⟩) hHeld ?_ ?_
      rotate_left
      ·rintro w' ⟨s0, s1, s2, s3, s4⟩
       go_simp
       with_reducible rfl
      rotate_left
      ·simp only [Act.put, List.setIfInBounds_toArray, List.set_cons_zero, List.set_cons_succ, i64_w, i32_w]
       rfl
      refine join_ (σ := Nat) 2 (bz 12 1023) (fun s_ => [(21, .tuple #[.agg #[.bool t412, .bool t413, .bool t414, .bool t415], .bool true]), (7, .pointer (some ⟨s_, 0, none⟩)), (15, .tuple #[.agg #[.bool t412, .bool t413, .bool t414, .bool t415], .bool true]), (22, .agg #[.bool t412, .bool t413, .bool t414, .bool t415]), (23, .bool true)]) (fun s_ w' => (w'.cell? ⟨gb409, 0, none⟩ = some (.bool x410000_1) ∧ w'.cell? ⟨gb409, 1, none⟩ = some (.bool x410001_1) ∧ w'.cell? ⟨gb409, 2, none⟩ = some (.bool x410002_1) ∧ w'.cell? ⟨gb409, 3, none⟩ = some (.bool x410003_1) ∧ w'.cell? (ad411.add (x6_1).toNat) = some (.int .i64 (rd l1 x6_1))) ∧ (w'.heap[gb409]? = some (.cells #[.bool x410000_1, .bool x410001_1, .bool x410002_1, .bool x410003_1] 59 (0, 0))) ∧ (w'.heap[gb410]? = some (.cells #[.bool x411000_1, .bool x411001_1, .bool x411002_1, .bool x411003_1] 59 (0, 0))) ∧ (w'.heap[s_]? = some (.cells #[.bool false, .bool false, .bool false, .bool false] 59 (0, 0))) ∧ (w.heap.size ≤ s_) ∧ (w.heap.size ≤ s_) ∧ (gb409 ≠ s_) ∧ (s_ ≠ gb409) ∧ (gb410 ≠ s_) ∧ (s_ ≠ gb410) ∧ (Below w.heap.size w w')) ?_ ?_
      rotate_left
      ·intro hCont
       refine two_ (i := 5) (j := 9) (Ni := some 21) (Nj := some 7) (bz 12 63) (bz 12 543) rfl rfl rfl rfl (two_of HT_.out (by kernel_rfl)) (by decide) (by decide) (fun K hK => ?_) (fun K hK => ?_)
       ·skip
        refine goes_ Tryd.func63 (by kernel_rfl) rfl #[.agg #[.bool x410000_1, .bool x410001_1, .bool x410002_1, .bool x410003_1], .int .i64 (rd l1 x6_1)] (by rfl) rfl rfl (by (try simp only [List.map_toArray, List.map_cons, List.map_nil]); first | done | rfl | (simp only [List.length_drop, List.length_take]; rfl)) ?_
        with_reducible refine (spec_BayDo.calls x410000_1 x410001_1 x410002_1 x410003_1 (rd l1 x6_1) t412 t413 t414 t415 true _ A7.out).mono ?_
        rintro e w10 ⟨rfl, hb⟩
        refine ⟨_, rfl, ?_⟩
        have n0_ := bkB BK409 hb
        have n1_ := bkB BK410 hb
        have n2_ := Aside0.mk (below_step bw hb)
        clear BK409
        clear BK410
        clear HB
        have BK409 := n0_
        have BK410 := n1_
        have HB := n2_
        clear n0_ n1_ n2_
        (try clear hb)
        (try clear hb2)
        (try clear hk)
        (try clear hi)
        refine hK.out _ _ ⟨(blk_cell BK409.out 0).trans rfl, (blk_cell BK409.out 1).trans rfl, (blk_cell BK409.out 2).trans rfl, (blk_cell BK409.out 3).trans rfl, ((HB.out.cell (World.block_lt_of_cell? w _ hw411_0)).trans hw411_0)⟩ (fun hHeld => ?_)
        clear hK K
        refine norm_ (a' := ?_) ?_ ?_
        rotate_left
        ·show Act.put _ (some 21) _ = _
         simp only [Act.put, List.setIfInBounds_toArray, List.set_cons_zero, List.set_cons_succ, i64_w, i32_w]
         rfl
        refine pure_ (i := 6) (N := some 15) (v := ?_) (a' := ?_) (bz 12 127) rfl rfl (any_of HT_.out (by kernel_rfl)) (fun _ _ _ h => h) (Or.inl ⟨by rfl, ?_⟩) ?_ ?_
        rotate_left
        ·intro w'
         go_simp
         with_reducible rfl
        rotate_left
        ·simp only [Act.put, List.setIfInBounds_toArray, List.set_cons_zero, List.set_cons_succ, i64_w, i32_w]
         rfl
        refine pure_ (i := 7) (N := some 22) (v := ?_) (a' := ?_) (bz 12 255) rfl rfl (any_of HT_.out (by kernel_rfl)) (fun _ _ _ h => h) (Or.inl ⟨by rfl, ?_⟩) ?_ ?_
        rotate_left
        ·intro w'
         go_simp
         with_reducible rfl
        rotate_left
        ·simp only [Act.put, List.setIfInBounds_toArray, List.set_cons_zero, List.set_cons_succ, i64_w, i32_w]
         rfl
        refine pure_ (i := 8) (N := some 23) (v := ?_) (a' := ?_) (bz 12 511) rfl rfl (any_of HT_.out (by kernel_rfl)) (fun _ _ _ h => h) (Or.inl ⟨by rfl, ?_⟩) ?_ ?_
        rotate_left
        ·intro w'
         go_simp
         with_reducible rfl
        rotate_left
        ·simp only [Act.put, List.setIfInBounds_toArray, List.set_cons_zero, List.set_cons_succ, i64_w, i32_w]
         rfl
        refine one_ (i := 9) (N := some 7) (bz 12 1023) rfl rfl (one_of HT_.out (by kernel_rfl)) (by decide) (fun K hK => ?_)
        refine box_step ?hg (N := 7) ?hd (cs := #[.bool false, .bool false, .bool false, .bool false]) (t := 59) ?hr ?_; (case hd => rfl); (case hg => rfl); (case hr => first | (go_simp; done) | (go_simp; rfl))
        intro gb417 hg w11 hbox hb
        have n0_ := bkB BK409 hb
        have n1_ := bkB BK410 hb
        have n2_ := Aside0.mk (below_step bw hb)
        have n3_ := Aside0.mk (hbox)
        have n4_ := Aside0.mk ((by rw [hg]; exact (below_size bw) : w.heap.size ≤ gb417))
        have n5_ := Aside0.mk ((by rw [hg]; exact (below_size bw) : w.heap.size ≤ gb417))
        have n6_ := Aside0.mk ((by rw [hg]; exact Nat.ne_of_lt (blk_lt (g := gb409) (o := .cells #[.bool x410000_1, .bool x410001_1, .bool x410002_1, .bool x410003_1] 59 (0, 0)) (bk BK409)) : gb409 ≠ gb417))
        have n7_ := Aside0.mk ((by rw [hg]; exact Nat.ne_of_gt (blk_lt (g := gb409) (o := .cells #[.bool x410000_1, .bool x410001_1, .bool x410002_1, .bool x410003_1] 59 (0, 0)) (bk BK409)) : gb417 ≠ gb409))
        have n8_ := Aside0.mk ((by rw [hg]; exact Nat.ne_of_lt (blk_lt (g := gb410) (o := .cells #[.bool x411000_1, .bool x411001_1, .bool x411002_1, .bool x411003_1] 59 (0, 0)) (bk BK410)) : gb410 ≠ gb417))
        have n9_ := Aside0.mk ((by rw [hg]; exact Nat.ne_of_gt (blk_lt (g := gb410) (o := .cells #[.bool x411000_1, .bool x411001_1, .bool x411002_1, .bool x411003_1] 59 (0, 0)) (bk BK410)) : gb417 ≠ gb410))
        clear BK409
        clear BK410
        clear HB
        have BK409 := n0_
        have BK410 := n1_
        have HB := n2_
        have BK417 := n3_
        have GW417 := n4_
        have GE417 := n5_
        have NB409_417 := n6_
        have NB417_409 := n7_
        have NB410_417 := n8_
        have NB417_410 := n9_
        clear n0_ n1_ n2_ n3_ n4_ n5_ n6_ n7_ n8_ n9_
        clear hb hbox hg
        refine hK.out _ _ ⟨(blk_cell BK409.out 0).trans rfl, (blk_cell BK409.out 1).trans rfl, (blk_cell BK409.out 2).trans rfl, (blk_cell BK409.out 3).trans rfl, ((HB.out.cell (World.block_lt_of_cell? w _ hw411_0)).trans hw411_0)⟩ (fun hHeld => ?_)
        clear hK K
        refine norm_ (a' := ?_) ?_ ?_
        rotate_left
        ·show Act.put _ (some 7) _ = _
         simp only [Act.put, List.setIfInBounds_toArray, List.set_cons_zero, List.set_cons_succ, i64_w, i32_w]
         rfl
        exact norm_ (by simp only [putAll, Act.put, List.setIfInBounds_toArray, List.set_cons_zero, List.set_cons_succ]) (hCont (gb417) _ ⟨hHeld, (bk BK409), (bk BK410), (bk BK417), GW417.out, GE417.out, NB409_417.out, NB417_409.out, NB410_417.out, NB417_410.out, bw⟩)
       ·skip
        refine box_step ?hg (N := 7) ?hd (cs := #[.bool false, .bool false, .bool false, .bool false]) (t := 59) ?hr ?_; (case hd => rfl); (case hg => rfl); (case hr => first | (go_simp; done) | (go_simp; rfl))
        intro gb417 hg w10 hbox hb
        have n0_ := bkB BK409 hb
        have n1_ := bkB BK410 hb
        have n2_ := Aside0.mk (below_step bw hb)
        have n3_ := Aside0.mk (hbox)
        have n4_ := Aside0.mk ((by rw [hg]; exact (below_size bw) : w.heap.size ≤ gb417))
        have n5_ := Aside0.mk ((by rw [hg]; exact (below_size bw) : w.heap.size ≤ gb417))
        have n6_ := Aside0.mk ((by rw [hg]; exact Nat.ne_of_lt (blk_lt (g := gb409) (o := .cells #[.bool x410000_1, .bool x410001_1, .bool x410002_1, .bool x410003_1] 59 (0, 0)) (bk BK409)) : gb409 ≠ gb417))
        have n7_ := Aside0.mk ((by rw [hg]; exact Nat.ne_of_gt (blk_lt (g := gb409) (o := .cells #[.bool x410000_1, .bool x410001_1, .bool x410002_1, .bool x410003_1] 59 (0, 0)) (bk BK409)) : gb417 ≠ gb409))
        have n8_ := Aside0.mk ((by rw [hg]; exact Nat.ne_of_lt (blk_lt (g := gb410) (o := .cells #[.bool x411000_1, .bool x411001_1, .bool x411002_1, .bool x411003_1] 59 (0, 0)) (bk BK410)) : gb410 ≠ gb417))
        have n9_ := Aside0.mk ((by rw [hg]; exact Nat.ne_of_gt (blk_lt (g := gb410) (o := .cells #[.bool x411000_1, .bool x411001_1, .bool x411002_1, .bool x411003_1] 59 (0, 0)) (bk BK410)) : gb417 ≠ gb410))
        clear BK409
        clear BK410
        clear HB
        have BK409 := n0_
        have BK410 := n1_
        have HB := n2_
        have BK417 := n3_
        have GW417 := n4_
        have GE417 := n5_
        have NB409_417 := n6_
        have NB417_409 := n7_
        have NB410_417 := n8_
        have NB417_410 := n9_
        clear n0_ n1_ n2_ n3_ n4_ n5_ n6_ n7_ n8_ n9_
        clear hb hbox hg
        refine hK.out _ _ ⟨(blk_cell BK409.out 0).trans rfl, (blk_cell BK409.out 1).trans rfl, (blk_cell BK409.out 2).trans rfl, (blk_cell BK409.out 3).trans rfl, ((HB.out.cell (World.block_lt_of_cell? w _ hw411_0)).trans hw411_0)⟩ (fun hHeld => ?_)
        clear hK K
        refine norm_ (a' := ?_) ?_ ?_
        rotate_left
        ·show Act.put _ (some 7) _ = _
         simp only [Act.put, List.setIfInBounds_toArray, List.set_cons_zero, List.set_cons_succ, i64_w, i32_w]
         rfl
        refine one_ (i := 5) (N := some 21) (bz 12 575) rfl rfl (one_of HT_.out (by kernel_rfl)) (by decide) (fun K hK => ?_)
        refine goes_ Tryd.func63 (by kernel_rfl) rfl #[.agg #[.bool x410000_1, .bool x410001_1, .bool x410002_1, .bool x410003_1], .int .i64 (rd l1 x6_1)] (by rfl) rfl rfl (by (try simp only [List.map_toArray, List.map_cons, List.map_nil]); first | done | rfl | (simp only [List.length_drop, List.length_take]; rfl)) ?_
        with_reducible refine (spec_BayDo.calls x410000_1 x410001_1 x410002_1 x410003_1 (rd l1 x6_1) t412 t413 t414 t415 true _ A7.out).mono ?_
        rintro e w11 ⟨rfl, hb⟩
        refine ⟨_, rfl, ?_⟩
        have n0_ := bkB BK409 hb
        have n1_ := bkB BK410 hb
        have n2_ := bkB BK417 hb
        have n3_ := Aside0.mk (below_step bw hb)
        clear BK409
        clear BK410
        clear BK417
        clear HB
        have BK409 := n0_
        have BK410 := n1_
        have BK417 := n2_
        have HB := n3_
        clear n0_ n1_ n2_ n3_
        (try clear hb)
        (try clear hb2)
        (try clear hk)
        (try clear hi)
        refine hK.out _ _ ⟨(blk_cell BK409.out 0).trans rfl, (blk_cell BK409.out 1).trans rfl, (blk_cell BK409.out 2).trans rfl, (blk_cell BK409.out 3).trans rfl, ((HB.out.cell (World.block_lt_of_cell? w _ hw411_0)).trans hw411_0)⟩ (fun hHeld => ?_)
        clear hK K
        refine norm_ (a' := ?_) ?_ ?_
        rotate_left
        ·show Act.put _ (some 21) _ = _
         simp only [Act.put, List.setIfInBounds_toArray, List.set_cons_zero, List.set_cons_succ, i64_w, i32_w]
         rfl
        refine pure_ (i := 6) (N := some 15) (v := ?_) (a' := ?_) (bz 12 639) rfl rfl (any_of HT_.out (by kernel_rfl)) (fun _ _ _ h => h) (Or.inl ⟨by rfl, ?_⟩) ?_ ?_
        rotate_left
        ·intro w'
         go_simp
         with_reducible rfl
        rotate_left
        ·simp only [Act.put, List.setIfInBounds_toArray, List.set_cons_zero, List.set_cons_succ, i64_w, i32_w]
         rfl
        refine pure_ (i := 7) (N := some 22) (v := ?_) (a' := ?_) (bz 12 767) rfl rfl (any_of HT_.out (by kernel_rfl)) (fun _ _ _ h => h) (Or.inl ⟨by rfl, ?_⟩) ?_ ?_
        rotate_left
        ·intro w'
         go_simp
         with_reducible rfl
        rotate_left
        ·simp only [Act.put, List.setIfInBounds_toArray, List.set_cons_zero, List.set_cons_succ, i64_w, i32_w]
         rfl
        refine pure_ (i := 8) (N := some 23) (v := ?_) (a' := ?_) (bz 12 1023) rfl rfl (any_of HT_.out (by kernel_rfl)) (fun _ _ _ h => h) (Or.inl ⟨by rfl, ?_⟩) ?_ ?_
        rotate_left
        ·intro w'
         go_simp
         with_reducible rfl
        rotate_left
        ·simp only [Act.put, List.setIfInBounds_toArray, List.set_cons_zero, List.set_cons_succ, i64_w, i32_w]
         rfl
        exact norm_ (by simp only [putAll, Act.put, List.setIfInBounds_toArray, List.set_cons_zero, List.set_cons_succ]) (hCont (gb417) _ ⟨hHeld, (bk BK409), (bk BK410), (bk BK417), GW417.out, GE417.out, NB409_417.out, NB417_409.out, NB410_417.out, NB417_410.out, bw⟩)
      rintro gb417 w12 ⟨hS_, h0_, h1_, h2_, h3_, h4_, h5_, h6_, h7_, h8_, h9_⟩
      have n0_ : Aside0 (w12.heap[gb409]? = some (.cells #[.bool x410000_1, .bool x410001_1, .bool x410002_1, .bool x410003_1] 59 (0, 0))) := ⟨h0_⟩
      have n1_ : Aside0 (w12.heap[gb410]? = some (.cells #[.bool x411000_1, .bool x411001_1, .bool x411002_1, .bool x411003_1] 59 (0, 0))) := ⟨h1_⟩
      have n2_ : Aside0 (w12.heap[gb417]? = some (.cells #[.bool false, .bool false, .bool false, .bool false] 59 (0, 0))) := ⟨h2_⟩
      have n3_ : Aside0 (w.heap.size ≤ gb417) := ⟨h3_⟩
      have n4_ : Aside0 (w.heap.size ≤ gb417) := ⟨h4_⟩
      have n5_ : Aside0 (gb409 ≠ gb417) := ⟨h5_⟩
      have n6_ : Aside0 (gb417 ≠ gb409) := ⟨h6_⟩
      have n7_ : Aside0 (gb410 ≠ gb417) := ⟨h7_⟩
      have n8_ : Aside0 (gb417 ≠ gb410) := ⟨h8_⟩
      have n9_ : Aside0 (Below w.heap.size w w12) := ⟨h9_⟩
      clear BK409
      clear BK410
      clear HB
      clear h0_ h1_ h2_ h3_ h4_ h5_ h6_ h7_ h8_ h9_
      have BK409 := n0_
      have BK410 := n1_
      have BK417 := n2_
      have GW417 := n3_
      have GE417 := n4_
      have NB409_417 := n5_
      have NB417_409 := n6_
      have NB410_417 := n7_
      have NB417_410 := n8_
      have HB := n9_
      clear n0_ n1_ n2_ n3_ n4_ n5_ n6_ n7_ n8_ n9_
      have hHeld : w12.cell? ⟨gb409, 0, none⟩ = some (.bool x410000_1) ∧ w12.cell? ⟨gb409, 1, none⟩ = some (.bool x410001_1) ∧ w12.cell? ⟨gb409, 2, none⟩ = some (.bool x410002_1) ∧ w12.cell? ⟨gb409, 3, none⟩ = some (.bool x410003_1) ∧ w12.cell? (ad411.add (x6_1).toNat) = some (.int .i64 (rd l1 x6_1)) := hS_
      refine norm_ (a' := ?_) ?_ ?_
      rotate_left
      ·simp only [putAll, Act.put, List.setIfInBounds_toArray, List.set_cons_zero, List.set_cons_succ]
       rfl
      refine one_ (i := 10) (N := none) (bz 12 2047) rfl rfl (one_of HT_.out (by kernel_rfl)) (by decide) (fun K hK => ?_)
      have hs13 : w12.cell? ⟨gb417, 0, none⟩ = some (.bool false) := (blk_cell BK417.out 0).trans rfl
      have hfs13 := blk_frozen BK417.out 0
      have hns13_0 := NB409_417.out
      have hns13_1 := NB410_417.out
      have hms13_0 := NB417_409.out
      have hms13_1 := NB417_410.out
      have hs14 : w12.cell? ⟨gb417, 1, none⟩ = some (.bool false) := (blk_cell BK417.out 1).trans rfl
      have hfs14 := blk_frozen BK417.out 1
      have hns14_0 := NB409_417.out
      have hns14_1 := NB410_417.out
      have hms14_0 := NB417_409.out
      have hms14_1 := NB417_410.out
      have hs15 : w12.cell? ⟨gb417, 2, none⟩ = some (.bool false) := (blk_cell BK417.out 2).trans rfl
      have hfs15 := blk_frozen BK417.out 2
      have hns15_0 := NB409_417.out
      have hns15_1 := NB410_417.out
      have hms15_0 := NB417_409.out
      have hms15_1 := NB417_410.out
      have hs16 : w12.cell? ⟨gb417, 3, none⟩ = some (.bool false) := (blk_cell BK417.out 3).trans rfl
      have hfs16 := blk_frozen BK417.out 3
      have hns16_0 := NB409_417.out
      have hns16_1 := NB410_417.out
      have hms16_0 := NB417_409.out
      have hms16_1 := NB417_410.out
      refine skip_ (w1 := ?_) (by rfl) rfl ?_ ?_
      rotate_left
      ·go_simp
       rfl
      refine hK.out _ _ ⟨((cell_far (p := ⟨gb417, _, none⟩) NB409_417.out _).trans (((cell_far (p := ⟨gb417, _, none⟩) NB409_417.out _).trans (((cell_far (p := ⟨gb417, _, none⟩) NB409_417.out _).trans (((cell_far (p := ⟨gb417, _, none⟩) NB409_417.out _).trans (hHeld.1)))))))), ((cell_far (p := ⟨gb417, _, none⟩) NB409_417.out _).trans (((cell_far (p := ⟨gb417, _, none⟩) NB409_417.out _).trans (((cell_far (p := ⟨gb417, _, none⟩) NB409_417.out _).trans (((cell_far (p := ⟨gb417, _, none⟩) NB409_417.out _).trans (hHeld.2.1)))))))), ((cell_far (p := ⟨gb417, _, none⟩) NB409_417.out _).trans (((cell_far (p := ⟨gb417, _, none⟩) NB409_417.out _).trans (((cell_far (p := ⟨gb417, _, none⟩) NB409_417.out _).trans (((cell_far (p := ⟨gb417, _, none⟩) NB409_417.out _).trans (hHeld.2.2.1)))))))), ((cell_far (p := ⟨gb417, _, none⟩) NB409_417.out _).trans (((cell_far (p := ⟨gb417, _, none⟩) NB409_417.out _).trans (((cell_far (p := ⟨gb417, _, none⟩) NB409_417.out _).trans (((cell_far (p := ⟨gb417, _, none⟩) NB409_417.out _).trans (hHeld.2.2.2.1)))))))), ((cell_far (p := ⟨gb417, _, none⟩) (by first | exact Nat.ne_of_lt (Nat.lt_of_lt_of_le (by have := World.block_lt_of_cell? _ _ hw411_0; first | rwa [add_block] at this | exact this) GW417.out) | (rw [add_block]; exact Nat.ne_of_lt (Nat.lt_of_lt_of_le (by have := World.block_lt_of_cell? _ _ hw411_0; first | rwa [add_block] at this | exact this) GW417.out)) | (show (Addr.add _ _).block ≠ _; rw [add_block]; exact Nat.ne_of_lt (Nat.lt_of_lt_of_le (by have := World.block_lt_of_cell? _ _ hw411_0; first | rwa [add_block] at this | exact this) GW417.out)) | (dsimp only; exact Nat.ne_of_lt (Nat.lt_of_lt_of_le (by have := World.block_lt_of_cell? _ _ hw411_0; first | rwa [add_block] at this | exact this) GW417.out))) _).trans (((cell_far (p := ⟨gb417, _, none⟩) (by first | exact Nat.ne_of_lt (Nat.lt_of_lt_of_le (by have := World.block_lt_of_cell? _ _ hw411_0; first | rwa [add_block] at this | exact this) GW417.out) | (rw [add_block]; exact Nat.ne_of_lt (Nat.lt_of_lt_of_le (by have := World.block_lt_of_cell? _ _ hw411_0; first | rwa [add_block] at this | exact this) GW417.out)) | (show (Addr.add _ _).block ≠ _; rw [add_block]; exact Nat.ne_of_lt (Nat.lt_of_lt_of_le (by have := World.block_lt_of_cell? _ _ hw411_0; first | rwa [add_block] at this | exact this) GW417.out)) | (dsimp only; exact Nat.ne_of_lt (Nat.lt_of_lt_of_le (by have := World.block_lt_of_cell? _ _ hw411_0; first | rwa [add_block] at this | exact this) GW417.out))) _).trans (((cell_far (p := ⟨gb417, _, none⟩) (by first | exact Nat.ne_of_lt (Nat.lt_of_lt_of_le (by have := World.block_lt_of_cell? _ _ hw411_0; first | rwa [add_block] at this | exact this) GW417.out) | (rw [add_block]; exact Nat.ne_of_lt (Nat.lt_of_lt_of_le (by have := World.block_lt_of_cell? _ _ hw411_0; first | rwa [add_block] at this | exact this) GW417.out)) | (show (Addr.add _ _).block ≠ _; rw [add_block]; exact Nat.ne_of_lt (Nat.lt_of_lt_of_le (by have := World.block_lt_of_cell? _ _ hw411_0; first | rwa [add_block] at this | exact this) GW417.out)) | (dsimp only; exact Nat.ne_of_lt (Nat.lt_of_lt_of_le (by have := World.block_lt_of_cell? _ _ hw411_0; first | rwa [add_block] at this | exact this) GW417.out))) _).trans (((cell_far (p := ⟨gb417, _, none⟩) (by first | exact Nat.ne_of_lt (Nat.lt_of_lt_of_le (by have := World.block_lt_of_cell? _ _ hw411_0; first | rwa [add_block] at this | exact this) GW417.out) | (rw [add_block]; exact Nat.ne_of_lt (Nat.lt_of_lt_of_le (by have := World.block_lt_of_cell? _ _ hw411_0; first | rwa [add_block] at this | exact this) GW417.out)) | (show (Addr.add _ _).block ≠ _; rw [add_block]; exact Nat.ne_of_lt (Nat.lt_of_lt_of_le (by have := World.block_lt_of_cell? _ _ hw411_0; first | rwa [add_block] at this | exact this) GW417.out)) | (dsimp only; exact Nat.ne_of_lt (Nat.lt_of_lt_of_le (by have := World.block_lt_of_cell? _ _ hw411_0; first | rwa [add_block] at this | exact this) GW417.out))) _).trans (hHeld.2.2.2.2))))))))⟩ (fun hHeld => ?_)
      clear hK K
      refine pure_ (i := 11) (N := some 8) (v := ?_) (a' := ?_) (bz 12 4095) rfl rfl (any_of HT_.out (by kernel_rfl)) (fun _ _ _ h => h) (Or.inl ⟨by rfl, ?_⟩) ?_ ?_
      rotate_left
      ·intro w'
       go_simp
       with_reducible rfl
      rotate_left
      ·simp only [Act.put, List.setIfInBounds_toArray, List.set_cons_zero, List.set_cons_succ, i64_w, i32_w]
       rfl
      refine done_ (done_of HT_.out (by kernel_rfl)) ?_
      have hnb17 := NB417_409.out
      have hnc17 := NB409_417.out
      have hnb18 := NB417_410.out
      have hnc18 := NB410_417.out
      have hcz19_0 : w12.cell? ⟨gb417, 0, none⟩ = some (.bool false) := (blk_cell BK417.out 0).trans rfl
      have hcz19_1 : w12.cell? ⟨gb417, 1, none⟩ = some (.bool false) := (blk_cell BK417.out 1).trans rfl
      have hcz19_2 : w12.cell? ⟨gb417, 2, none⟩ = some (.bool false) := (blk_cell BK417.out 2).trans rfl
      have hcz19_3 : w12.cell? ⟨gb417, 3, none⟩ = some (.bool false) := (blk_cell BK417.out 3).trans rfl
      have hfz19_0 := blk_frozen BK417.out 0
      have hfz19_1 := blk_frozen BK417.out 1
      have hfz19_2 := blk_frozen BK417.out 2
      have hfz19_3 := blk_frozen BK417.out 3
      have hnb20 := NB409_410.out
      have hnc20 := NB410_409.out
      have hcz21_0 : w12.cell? ⟨gb409, 0, none⟩ = some (.bool x410000_1) := (blk_cell BK409.out 0).trans rfl
      have hcz21_1 : w12.cell? ⟨gb409, 1, none⟩ = some (.bool x410001_1) := (blk_cell BK409.out 1).trans rfl
      have hcz21_2 : w12.cell? ⟨gb409, 2, none⟩ = some (.bool x410002_1) := (blk_cell BK409.out 2).trans rfl
      have hcz21_3 : w12.cell? ⟨gb409, 3, none⟩ = some (.bool x410003_1) := (blk_cell BK409.out 3).trans rfl
      have hfz21_0 := blk_frozen BK409.out 0
      have hfz21_1 := blk_frozen BK409.out 1
      have hfz21_2 := blk_frozen BK409.out 2
      have hfz21_3 := blk_frozen BK409.out 3
      try go_wp2
      go_roundg k1
      case measure => have := HK1.out; omega
      case rel => exact ⟨(wrap64 (x6_1 + 1)), (t412), (t413), (t414), (t415), (x411000_1), (x411001_1), (x411002_1), (x411003_1), (by first | rfl | (simp; done) | (simp [*]; done)), H', ⟨by have := HK1.out; omega⟩, ⟨by (with_reducible repeat (first | refine blk_drewN ?_ _ | refine blk_drew ?_ | refine blk_alloc ?_ _)); refine blk_put (cs := #[.bool t412, .bool t413, .bool t414, .bool x410003_1]) ?_ 3 _ rfl; (with_reducible repeat (first | refine blk_drewN ?_ _ | refine blk_drew ?_ | refine blk_alloc ?_ _)); refine blk_put (cs := #[.bool t412, .bool t413, .bool x410002_1, .bool x410003_1]) ?_ 2 _ rfl; (with_reducible repeat (first | refine blk_drewN ?_ _ | refine blk_drew ?_ | refine blk_alloc ?_ _)); refine blk_put (cs := #[.bool t412, .bool x410001_1, .bool x410002_1, .bool x410003_1]) ?_ 1 _ rfl; (with_reducible repeat (first | refine blk_drewN ?_ _ | refine blk_drew ?_ | refine blk_alloc ?_ _)); refine blk_put (cs := #[.bool x410000_1, .bool x410001_1, .bool x410002_1, .bool x410003_1]) ?_ 0 _ rfl; (with_reducible repeat (first | refine blk_drewN ?_ _ | refine blk_drew ?_ | refine blk_alloc ?_ _)); refine blk_far ?_ NB409_417.out _; (with_reducible repeat (first | refine blk_drewN ?_ _ | refine blk_drew ?_ | refine blk_alloc ?_ _)); refine blk_far ?_ NB409_417.out _; (with_reducible repeat (first | refine blk_drewN ?_ _ | refine blk_drew ?_ | refine blk_alloc ?_ _)); refine blk_far ?_ NB409_417.out _; (with_reducible repeat (first | refine blk_drewN ?_ _ | refine blk_drew ?_ | refine blk_alloc ?_ _)); refine blk_far ?_ NB409_417.out _; (with_reducible repeat (first | refine blk_drewN ?_ _ | refine blk_drew ?_ | refine blk_alloc ?_ _)); exact BK409.out⟩, ⟨by (with_reducible repeat (first | refine blk_drewN ?_ _ | refine blk_drew ?_ | refine blk_alloc ?_ _)); refine blk_far ?_ NB410_409.out _; (with_reducible repeat (first | refine blk_drewN ?_ _ | refine blk_drew ?_ | refine blk_alloc ?_ _)); refine blk_far ?_ NB410_409.out _; (with_reducible repeat (first | refine blk_drewN ?_ _ | refine blk_drew ?_ | refine blk_alloc ?_ _)); refine blk_far ?_ NB410_409.out _; (with_reducible repeat (first | refine blk_drewN ?_ _ | refine blk_drew ?_ | refine blk_alloc ?_ _)); refine blk_far ?_ NB410_409.out _; (with_reducible repeat (first | refine blk_drewN ?_ _ | refine blk_drew ?_ | refine blk_alloc ?_ _)); refine blk_far ?_ NB410_417.out _; (with_reducible repeat (first | refine blk_drewN ?_ _ | refine blk_drew ?_ | refine blk_alloc ?_ _)); refine blk_far ?_ NB410_417.out _; (with_reducible repeat (first | refine blk_drewN ?_ _ | refine blk_drew ?_ | refine blk_alloc ?_ _)); refine blk_far ?_ NB410_417.out _; (with_reducible repeat (first | refine blk_drewN ?_ _ | refine blk_drew ?_ | refine blk_alloc ?_ _)); refine blk_far ?_ NB410_417.out _; (with_reducible repeat (first | refine blk_drewN ?_ _ | refine blk_drew ?_ | refine blk_alloc ?_ _)); exact BK410.out⟩, ⟨bw⟩⟩
     ·replace c8 := Bool.eq_false_iff.mpr c8
      subst c8
      have H1 : (some (x410000_1, x410001_1, x410002_1, x410003_1, x6_1)) = some (r1, r2, r3, r4, r5) := by rw [if_neg (show ¬ (false = true) by decide)] at H; exact H
      clear H
      have H := H1
      clear H1
      simp only [Option.some.injEq, Prod.mk.injEq] at H
      obtain ⟨rfl, rfl, rfl, rfl, rfl⟩ := H
      try go_wp2
      have n0_ := Aside0.mk (blk_drew BK409.out)
      have n1_ := Aside0.mk (blk_drew BK410.out)
      have n2_ := Aside0.mk (below_drew1 HB.out)
      clear BK409
      clear BK410
      clear HB
      have BK409 := n0_
      have BK410 := n1_
      have HB := n2_
      clear n0_ n1_ n2_
      have p411 : 0 ≤ (x6_1 : Int) := of_decide_eq_true (by first | (with_reducible assumption) | assumption)
      have q411 : x6_1 < (l1.length : Int) := of_decide_eq_true (by first | (with_reducible assumption) | assumption)
      obtain ⟨ad411, e411, hx411_0⟩ := Kd.at_int HR1.out x6_1 p411 q411
      have hw411_0 := hx411_0
      cases e411
      replace hx411_0 := (HB.out.cell (World.block_lt_of_cell? w _ hx411_0)).trans hx411_0
      replace p411 := eq_true p411
      replace q411 := eq_true q411
      refine start_ (n := 12) (S := fun w' => w'.cell? ⟨gb409, 0, none⟩ = some (.bool x410000_1) ∧ w'.cell? ⟨gb409, 1, none⟩ = some (.bool x410001_1) ∧ w'.cell? ⟨gb409, 2, none⟩ = some (.bool x410002_1) ∧ w'.cell? ⟨gb409, 3, none⟩ = some (.bool x410003_1) ∧ w'.cell? (ad411.add (x6_1).toNat) = some (.int .i64 (rd l1 x6_1))) (ds := []) (bz 12 0) (by kernel_rfl) rfl rfl ⟨(blk_cell BK409.out 0).trans rfl, (blk_cell BK409.out 1).trans rfl, (blk_cell BK409.out 2).trans rfl, (blk_cell BK409.out 3).trans rfl, ((HB.out.cell (World.block_lt_of_cell? w _ hw411_0)).trans hw411_0)⟩ (fun hHeld => ?_); refine with_tabW spec_BayRun.tab4 spec_BayRun.bits4 (fun HT_ HW_ => ?_)
      generalize wr.drew = w22 at BK409 BK410 HB hx411_0 hHeld ⊢
      refine pure_ (i := 1) (N := some 17) (v := ?_) (a' := ?_) (bz 12 2) rfl rfl (any_of HT_.out (by kernel_rfl)) (fun _ _ _ h => h) (Or.inl ⟨by rfl, ?_⟩) ?_ ?_
      rotate_left
      ·intro w'
       go_simp
       with_reducible rfl
      rotate_left
      ·simp only [Act.put, List.setIfInBounds_toArray, List.set_cons_zero, List.set_cons_succ, i64_w, i32_w]
       rfl
      refine pure_ (i := 2) (N := some 18) (v := ?_) (a' := ?_) (bz 12 6) rfl rfl (any_of HT_.out (by kernel_rfl)) (fun _ _ _ h => h) (Or.inl ⟨by rfl, ?_⟩) ?_ ?_
      rotate_left
      ·intro w'
       go_simp
       with_reducible rfl
      rotate_left
      ·simp only [Act.put, List.setIfInBounds_toArray, List.set_cons_zero, List.set_cons_succ, i64_w, i32_w]
       rfl
      refine pure_ (i := 3) (N := some 19) (v := ?_) (a' := ?_) (bz 12 14) rfl rfl (any_of HT_.out (by kernel_rfl)) (fun _ _ _ h => h) (Or.inl ⟨by rfl, ?_⟩) ?_ ?_
      rotate_left
      ·intro w'
       go_simp
       with_reducible rfl
      rotate_left
      ·simp only [Act.put, List.setIfInBounds_toArray, List.set_cons_zero, List.set_cons_succ, i64_w, i32_w]
       rfl
      refine take_ (i := 0) (N := some 16) (v := ?_) (a' := ?_) (bz 12 15) rfl rfl (take_ofW HT_.out HW_.out (by kernel_rfl)) (fun _ _ _ h => h) (Or.inl ⟨by rfl, ?_⟩) hHeld ?_ ?_
      rotate_left
      ·rintro w' ⟨s0, s1, s2, s3, s4⟩
       go_simp
       with_reducible rfl
      rotate_left
      ·simp only [Act.put, List.setIfInBounds_toArray, List.set_cons_zero, List.set_cons_succ, i64_w, i32_w]
       rfl
      refine take_ (i := 4) (N := some 20) (v := ?_) (a' := ?_) (bz 12 31) rfl rfl (take_ofW HT_.out HW_.out (by kernel_rfl)) (fun _ _ _ h => h) (Or.inl ⟨by rfl, ?_⟩) hHeld ?_ ?_
      rotate_left
      ·rintro w' ⟨s0, s1, s2, s3, s4⟩
       go_simp
       with_reducible rfl
      rotate_left
      ·simp only [Act.put, List.setIfInBounds_toArray, List.set_cons_zero, List.set_cons_succ, i64_w, i32_w]
       rfl
      refine join_ (σ := Nat) 2 (bz 12 1023) (fun s_ => [(21, .tuple #[.agg #[.bool t412, .bool t413, .bool t414, .bool t415], .bool false]), (7, .pointer (some ⟨s_, 0, none⟩)), (15, .tuple #[.agg #[.bool t412, .bool t413, .bool t414, .bool t415], .bool false]), (22, .agg #[.bool t412, .bool t413, .bool t414, .bool t415]), (23, .bool false)]) (fun s_ w' => (w'.cell? ⟨gb409, 0, none⟩ = some (.bool x410000_1) ∧ w'.cell? ⟨gb409, 1, none⟩ = some (.bool x410001_1) ∧ w'.cell? ⟨gb409, 2, none⟩ = some (.bool x410002_1) ∧ w'.cell? ⟨gb409, 3, none⟩ = some (.bool x410003_1) ∧ w'.cell? (ad411.add (x6_1).toNat) = some (.int .i64 (rd l1 x6_1))) ∧ (w'.heap[gb409]? = some (.cells #[.bool x410000_1, .bool x410001_1, .bool x410002_1, .bool x410003_1] 59 (0, 0))) ∧ (w'.heap[gb410]? = some (.cells #[.bool x411000_1, .bool x411001_1, .bool x411002_1, .bool x411003_1] 59 (0, 0))) ∧ (w'.heap[s_]? = some (.cells #[.bool false, .bool false, .bool false, .bool false] 59 (0, 0))) ∧ (w.heap.size ≤ s_) ∧ (w.heap.size ≤ s_) ∧ (gb409 ≠ s_) ∧ (s_ ≠ gb409) ∧ (gb410 ≠ s_) ∧ (s_ ≠ gb410) ∧ (Below w.heap.size w w')) ?_ ?_
      rotate_left
      ·intro hCont
       refine two_ (i := 5) (j := 9) (Ni := some 21) (Nj := some 7) (bz 12 63) (bz 12 543) rfl rfl rfl rfl (two_of HT_.out (by kernel_rfl)) (by decide) (by decide) (fun K hK => ?_) (fun K hK => ?_)
       ·skip
        refine goes_ Tryd.func63 (by kernel_rfl) rfl #[.agg #[.bool x410000_1, .bool x410001_1, .bool x410002_1, .bool x410003_1], .int .i64 (rd l1 x6_1)] (by rfl) rfl rfl (by (try simp only [List.map_toArray, List.map_cons, List.map_nil]); first | done | rfl | (simp only [List.length_drop, List.length_take]; rfl)) ?_
        with_reducible refine (spec_BayDo.calls x410000_1 x410001_1 x410002_1 x410003_1 (rd l1 x6_1) t412 t413 t414 t415 false _ A7.out).mono ?_
        rintro e w23 ⟨rfl, hb⟩
        refine ⟨_, rfl, ?_⟩
        have n0_ := bkB BK409 hb
        have n1_ := bkB BK410 hb
        have n2_ := Aside0.mk (below_step bw hb)
        clear BK409
        clear BK410
        clear HB
        have BK409 := n0_
        have BK410 := n1_
        have HB := n2_
        clear n0_ n1_ n2_
        (try clear hb)
        (try clear hb2)
        (try clear hk)
        (try clear hi)
        refine hK.out _ _ ⟨(blk_cell BK409.out 0).trans rfl, (blk_cell BK409.out 1).trans rfl, (blk_cell BK409.out 2).trans rfl, (blk_cell BK409.out 3).trans rfl, ((HB.out.cell (World.block_lt_of_cell? w _ hw411_0)).trans hw411_0)⟩ (fun hHeld => ?_)
        clear hK K
        refine norm_ (a' := ?_) ?_ ?_
        rotate_left
        ·show Act.put _ (some 21) _ = _
         simp only [Act.put, List.setIfInBounds_toArray, List.set_cons_zero, List.set_cons_succ, i64_w, i32_w]
         rfl
        refine pure_ (i := 6) (N := some 15) (v := ?_) (a' := ?_) (bz 12 127) rfl rfl (any_of HT_.out (by kernel_rfl)) (fun _ _ _ h => h) (Or.inl ⟨by rfl, ?_⟩) ?_ ?_
        rotate_left
        ·intro w'
         go_simp
         with_reducible rfl
        rotate_left
        ·simp only [Act.put, List.setIfInBounds_toArray, List.set_cons_zero, List.set_cons_succ, i64_w, i32_w]
         rfl
        refine pure_ (i := 7) (N := some 22) (v := ?_) (a' := ?_) (bz 12 255) rfl rfl (any_of HT_.out (by kernel_rfl)) (fun _ _ _ h => h) (Or.inl ⟨by rfl, ?_⟩) ?_ ?_
        rotate_left
        ·intro w'
         go_simp
         with_reducible rfl
        rotate_left
        ·simp only [Act.put, List.setIfInBounds_toArray, List.set_cons_zero, List.set_cons_succ, i64_w, i32_w]
         rfl
        refine pure_ (i := 8) (N := some 23) (v := ?_) (a' := ?_) (bz 12 511) rfl rfl (any_of HT_.out (by kernel_rfl)) (fun _ _ _ h => h) (Or.inl ⟨by rfl, ?_⟩) ?_ ?_
        rotate_left
        ·intro w'
         go_simp
         with_reducible rfl
        rotate_left
        ·simp only [Act.put, List.setIfInBounds_toArray, List.set_cons_zero, List.set_cons_succ, i64_w, i32_w]
         rfl
        refine one_ (i := 9) (N := some 7) (bz 12 1023) rfl rfl (one_of HT_.out (by kernel_rfl)) (by decide) (fun K hK => ?_)
        refine box_step ?hg (N := 7) ?hd (cs := #[.bool false, .bool false, .bool false, .bool false]) (t := 59) ?hr ?_; (case hd => rfl); (case hg => rfl); (case hr => first | (go_simp; done) | (go_simp; rfl))
        intro gb417 hg w24 hbox hb
        have n0_ := bkB BK409 hb
        have n1_ := bkB BK410 hb
        have n2_ := Aside0.mk (below_step bw hb)
        have n3_ := Aside0.mk (hbox)
        have n4_ := Aside0.mk ((by rw [hg]; exact (below_size bw) : w.heap.size ≤ gb417))
        have n5_ := Aside0.mk ((by rw [hg]; exact (below_size bw) : w.heap.size ≤ gb417))
        have n6_ := Aside0.mk ((by rw [hg]; exact Nat.ne_of_lt (blk_lt (g := gb409) (o := .cells #[.bool x410000_1, .bool x410001_1, .bool x410002_1, .bool x410003_1] 59 (0, 0)) (bk BK409)) : gb409 ≠ gb417))
        have n7_ := Aside0.mk ((by rw [hg]; exact Nat.ne_of_gt (blk_lt (g := gb409) (o := .cells #[.bool x410000_1, .bool x410001_1, .bool x410002_1, .bool x410003_1] 59 (0, 0)) (bk BK409)) : gb417 ≠ gb409))
        have n8_ := Aside0.mk ((by rw [hg]; exact Nat.ne_of_lt (blk_lt (g := gb410) (o := .cells #[.bool x411000_1, .bool x411001_1, .bool x411002_1, .bool x411003_1] 59 (0, 0)) (bk BK410)) : gb410 ≠ gb417))
        have n9_ := Aside0.mk ((by rw [hg]; exact Nat.ne_of_gt (blk_lt (g := gb410) (o := .cells #[.bool x411000_1, .bool x411001_1, .bool x411002_1, .bool x411003_1] 59 (0, 0)) (bk BK410)) : gb417 ≠ gb410))
        clear BK409
        clear BK410
        clear HB
        have BK409 := n0_
        have BK410 := n1_
        have HB := n2_
        have BK417 := n3_
        have GW417 := n4_
        have GE417 := n5_
        have NB409_417 := n6_
        have NB417_409 := n7_
        have NB410_417 := n8_
        have NB417_410 := n9_
        clear n0_ n1_ n2_ n3_ n4_ n5_ n6_ n7_ n8_ n9_
        clear hb hbox hg
        refine hK.out _ _ ⟨(blk_cell BK409.out 0).trans rfl, (blk_cell BK409.out 1).trans rfl, (blk_cell BK409.out 2).trans rfl, (blk_cell BK409.out 3).trans rfl, ((HB.out.cell (World.block_lt_of_cell? w _ hw411_0)).trans hw411_0)⟩ (fun hHeld => ?_)
        clear hK K
        refine norm_ (a' := ?_) ?_ ?_
        rotate_left
        ·show Act.put _ (some 7) _ = _
         simp only [Act.put, List.setIfInBounds_toArray, List.set_cons_zero, List.set_cons_succ, i64_w, i32_w]
         rfl
        exact norm_ (by simp only [putAll, Act.put, List.setIfInBounds_toArray, List.set_cons_zero, List.set_cons_succ]) (hCont (gb417) _ ⟨hHeld, (bk BK409), (bk BK410), (bk BK417), GW417.out, GE417.out, NB409_417.out, NB417_409.out, NB410_417.out, NB417_410.out, bw⟩)
       ·skip
        refine box_step ?hg (N := 7) ?hd (cs := #[.bool false, .bool false, .bool false, .bool false]) (t := 59) ?hr ?_; (case hd => rfl); (case hg => rfl); (case hr => first | (go_simp; done) | (go_simp; rfl))
        intro gb417 hg w23 hbox hb
        have n0_ := bkB BK409 hb
        have n1_ := bkB BK410 hb
        have n2_ := Aside0.mk (below_step bw hb)
        have n3_ := Aside0.mk (hbox)
        have n4_ := Aside0.mk ((by rw [hg]; exact (below_size bw) : w.heap.size ≤ gb417))
        have n5_ := Aside0.mk ((by rw [hg]; exact (below_size bw) : w.heap.size ≤ gb417))
        have n6_ := Aside0.mk ((by rw [hg]; exact Nat.ne_of_lt (blk_lt (g := gb409) (o := .cells #[.bool x410000_1, .bool x410001_1, .bool x410002_1, .bool x410003_1] 59 (0, 0)) (bk BK409)) : gb409 ≠ gb417))
        have n7_ := Aside0.mk ((by rw [hg]; exact Nat.ne_of_gt (blk_lt (g := gb409) (o := .cells #[.bool x410000_1, .bool x410001_1, .bool x410002_1, .bool x410003_1] 59 (0, 0)) (bk BK409)) : gb417 ≠ gb409))
        have n8_ := Aside0.mk ((by rw [hg]; exact Nat.ne_of_lt (blk_lt (g := gb410) (o := .cells #[.bool x411000_1, .bool x411001_1, .bool x411002_1, .bool x411003_1] 59 (0, 0)) (bk BK410)) : gb410 ≠ gb417))
        have n9_ := Aside0.mk ((by rw [hg]; exact Nat.ne_of_gt (blk_lt (g := gb410) (o := .cells #[.bool x411000_1, .bool x411001_1, .bool x411002_1, .bool x411003_1] 59 (0, 0)) (bk BK410)) : gb417 ≠ gb410))
        clear BK409
        clear BK410
        clear HB
        have BK409 := n0_
        have BK410 := n1_
        have HB := n2_
        have BK417 := n3_
        have GW417 := n4_
        have GE417 := n5_
        have NB409_417 := n6_
        have NB417_409 := n7_
        have NB410_417 := n8_
        have NB417_410 := n9_
        clear n0_ n1_ n2_ n3_ n4_ n5_ n6_ n7_ n8_ n9_
        clear hb hbox hg
        refine hK.out _ _ ⟨(blk_cell BK409.out 0).trans rfl, (blk_cell BK409.out 1).trans rfl, (blk_cell BK409.out 2).trans rfl, (blk_cell BK409.out 3).trans rfl, ((HB.out.cell (World.block_lt_of_cell? w _ hw411_0)).trans hw411_0)⟩ (fun hHeld => ?_)
        clear hK K
        refine norm_ (a' := ?_) ?_ ?_
        rotate_left
        ·show Act.put _ (some 7) _ = _
         simp only [Act.put, List.setIfInBounds_toArray, List.set_cons_zero, List.set_cons_succ, i64_w, i32_w]
         rfl
        refine one_ (i := 5) (N := some 21) (bz 12 575) rfl rfl (one_of HT_.out (by kernel_rfl)) (by decide) (fun K hK => ?_)
        refine goes_ Tryd.func63 (by kernel_rfl) rfl #[.agg #[.bool x410000_1, .bool x410001_1, .bool x410002_1, .bool x410003_1], .int .i64 (rd l1 x6_1)] (by rfl) rfl rfl (by (try simp only [List.map_toArray, List.map_cons, List.map_nil]); first | done | rfl | (simp only [List.length_drop, List.length_take]; rfl)) ?_
        with_reducible refine (spec_BayDo.calls x410000_1 x410001_1 x410002_1 x410003_1 (rd l1 x6_1) t412 t413 t414 t415 false _ A7.out).mono ?_
        rintro e w24 ⟨rfl, hb⟩
        refine ⟨_, rfl, ?_⟩
        have n0_ := bkB BK409 hb
        have n1_ := bkB BK410 hb
        have n2_ := bkB BK417 hb
        have n3_ := Aside0.mk (below_step bw hb)
        clear BK409
        clear BK410
        clear BK417
        clear HB
        have BK409 := n0_
        have BK410 := n1_
        have BK417 := n2_
        have HB := n3_
        clear n0_ n1_ n2_ n3_
        (try clear hb)
        (try clear hb2)
        (try clear hk)
        (try clear hi)
        refine hK.out _ _ ⟨(blk_cell BK409.out 0).trans rfl, (blk_cell BK409.out 1).trans rfl, (blk_cell BK409.out 2).trans rfl, (blk_cell BK409.out 3).trans rfl, ((HB.out.cell (World.block_lt_of_cell? w _ hw411_0)).trans hw411_0)⟩ (fun hHeld => ?_)
        clear hK K
        refine norm_ (a' := ?_) ?_ ?_
        rotate_left
        ·show Act.put _ (some 21) _ = _
         simp only [Act.put, List.setIfInBounds_toArray, List.set_cons_zero, List.set_cons_succ, i64_w, i32_w]
         rfl
        refine pure_ (i := 6) (N := some 15) (v := ?_) (a' := ?_) (bz 12 639) rfl rfl (any_of HT_.out (by kernel_rfl)) (fun _ _ _ h => h) (Or.inl ⟨by rfl, ?_⟩) ?_ ?_
        rotate_left
        ·intro w'
         go_simp
         with_reducible rfl
        rotate_left
        ·simp only [Act.put, List.setIfInBounds_toArray, List.set_cons_zero, List.set_cons_succ, i64_w, i32_w]
         rfl
        refine pure_ (i := 7) (N := some 22) (v := ?_) (a' := ?_) (bz 12 767) rfl rfl (any_of HT_.out (by kernel_rfl)) (fun _ _ _ h => h) (Or.inl ⟨by rfl, ?_⟩) ?_ ?_
        rotate_left
        ·intro w'
         go_simp
         with_reducible rfl
        rotate_left
        ·simp only [Act.put, List.setIfInBounds_toArray, List.set_cons_zero, List.set_cons_succ, i64_w, i32_w]
         rfl
        refine pure_ (i := 8) (N := some 23) (v := ?_) (a' := ?_) (bz 12 1023) rfl rfl (any_of HT_.out (by kernel_rfl)) (fun _ _ _ h => h) (Or.inl ⟨by rfl, ?_⟩) ?_ ?_
        rotate_left
        ·intro w'
         go_simp
         with_reducible rfl
        rotate_left
        ·simp only [Act.put, List.setIfInBounds_toArray, List.set_cons_zero, List.set_cons_succ, i64_w, i32_w]
         rfl
        exact norm_ (by simp only [putAll, Act.put, List.setIfInBounds_toArray, List.set_cons_zero, List.set_cons_succ]) (hCont (gb417) _ ⟨hHeld, (bk BK409), (bk BK410), (bk BK417), GW417.out, GE417.out, NB409_417.out, NB417_409.out, NB410_417.out, NB417_410.out, bw⟩)
      rintro gb417 w25 ⟨hS_, h0_, h1_, h2_, h3_, h4_, h5_, h6_, h7_, h8_, h9_⟩
      have n0_ : Aside0 (w25.heap[gb409]? = some (.cells #[.bool x410000_1, .bool x410001_1, .bool x410002_1, .bool x410003_1] 59 (0, 0))) := ⟨h0_⟩
      have n1_ : Aside0 (w25.heap[gb410]? = some (.cells #[.bool x411000_1, .bool x411001_1, .bool x411002_1, .bool x411003_1] 59 (0, 0))) := ⟨h1_⟩
      have n2_ : Aside0 (w25.heap[gb417]? = some (.cells #[.bool false, .bool false, .bool false, .bool false] 59 (0, 0))) := ⟨h2_⟩
      have n3_ : Aside0 (w.heap.size ≤ gb417) := ⟨h3_⟩
      have n4_ : Aside0 (w.heap.size ≤ gb417) := ⟨h4_⟩
      have n5_ : Aside0 (gb409 ≠ gb417) := ⟨h5_⟩
      have n6_ : Aside0 (gb417 ≠ gb409) := ⟨h6_⟩
      have n7_ : Aside0 (gb410 ≠ gb417) := ⟨h7_⟩
      have n8_ : Aside0 (gb417 ≠ gb410) := ⟨h8_⟩
      have n9_ : Aside0 (Below w.heap.size w w25) := ⟨h9_⟩
      clear BK409
      clear BK410
      clear HB
      clear h0_ h1_ h2_ h3_ h4_ h5_ h6_ h7_ h8_ h9_
      have BK409 := n0_
      have BK410 := n1_
      have BK417 := n2_
      have GW417 := n3_
      have GE417 := n4_
      have NB409_417 := n5_
      have NB417_409 := n6_
      have NB410_417 := n7_
      have NB417_410 := n8_
      have HB := n9_
      clear n0_ n1_ n2_ n3_ n4_ n5_ n6_ n7_ n8_ n9_
      have hHeld : w25.cell? ⟨gb409, 0, none⟩ = some (.bool x410000_1) ∧ w25.cell? ⟨gb409, 1, none⟩ = some (.bool x410001_1) ∧ w25.cell? ⟨gb409, 2, none⟩ = some (.bool x410002_1) ∧ w25.cell? ⟨gb409, 3, none⟩ = some (.bool x410003_1) ∧ w25.cell? (ad411.add (x6_1).toNat) = some (.int .i64 (rd l1 x6_1)) := hS_
      refine norm_ (a' := ?_) ?_ ?_
      rotate_left
      ·simp only [putAll, Act.put, List.setIfInBounds_toArray, List.set_cons_zero, List.set_cons_succ]
       rfl
      refine one_ (i := 10) (N := none) (bz 12 2047) rfl rfl (one_of HT_.out (by kernel_rfl)) (by decide) (fun K hK => ?_)
      have hs26 : w25.cell? ⟨gb417, 0, none⟩ = some (.bool false) := (blk_cell BK417.out 0).trans rfl
      have hfs26 := blk_frozen BK417.out 0
      have hns26_0 := NB409_417.out
      have hns26_1 := NB410_417.out
      have hms26_0 := NB417_409.out
      have hms26_1 := NB417_410.out
      have hs27 : w25.cell? ⟨gb417, 1, none⟩ = some (.bool false) := (blk_cell BK417.out 1).trans rfl
      have hfs27 := blk_frozen BK417.out 1
      have hns27_0 := NB409_417.out
      have hns27_1 := NB410_417.out
      have hms27_0 := NB417_409.out
      have hms27_1 := NB417_410.out
      have hs28 : w25.cell? ⟨gb417, 2, none⟩ = some (.bool false) := (blk_cell BK417.out 2).trans rfl
      have hfs28 := blk_frozen BK417.out 2
      have hns28_0 := NB409_417.out
      have hns28_1 := NB410_417.out
      have hms28_0 := NB417_409.out
      have hms28_1 := NB417_410.out
      have hs29 : w25.cell? ⟨gb417, 3, none⟩ = some (.bool false) := (blk_cell BK417.out 3).trans rfl
      have hfs29 := blk_frozen BK417.out 3
      have hns29_0 := NB409_417.out
      have hns29_1 := NB410_417.out
      have hms29_0 := NB417_409.out
      have hms29_1 := NB417_410.out
      refine skip_ (w1 := ?_) (by rfl) rfl ?_ ?_
      rotate_left
      ·go_simp
       rfl
      refine hK.out _ _ ⟨((cell_far (p := ⟨gb417, _, none⟩) NB409_417.out _).trans (((cell_far (p := ⟨gb417, _, none⟩) NB409_417.out _).trans (((cell_far (p := ⟨gb417, _, none⟩) NB409_417.out _).trans (((cell_far (p := ⟨gb417, _, none⟩) NB409_417.out _).trans (hHeld.1)))))))), ((cell_far (p := ⟨gb417, _, none⟩) NB409_417.out _).trans (((cell_far (p := ⟨gb417, _, none⟩) NB409_417.out _).trans (((cell_far (p := ⟨gb417, _, none⟩) NB409_417.out _).trans (((cell_far (p := ⟨gb417, _, none⟩) NB409_417.out _).trans (hHeld.2.1)))))))), ((cell_far (p := ⟨gb417, _, none⟩) NB409_417.out _).trans (((cell_far (p := ⟨gb417, _, none⟩) NB409_417.out _).trans (((cell_far (p := ⟨gb417, _, none⟩) NB409_417.out _).trans (((cell_far (p := ⟨gb417, _, none⟩) NB409_417.out _).trans (hHeld.2.2.1)))))))), ((cell_far (p := ⟨gb417, _, none⟩) NB409_417.out _).trans (((cell_far (p := ⟨gb417, _, none⟩) NB409_417.out _).trans (((cell_far (p := ⟨gb417, _, none⟩) NB409_417.out _).trans (((cell_far (p := ⟨gb417, _, none⟩) NB409_417.out _).trans (hHeld.2.2.2.1)))))))), ((cell_far (p := ⟨gb417, _, none⟩) (by first | exact Nat.ne_of_lt (Nat.lt_of_lt_of_le (by have := World.block_lt_of_cell? _ _ hw411_0; first | rwa [add_block] at this | exact this) GW417.out) | (rw [add_block]; exact Nat.ne_of_lt (Nat.lt_of_lt_of_le (by have := World.block_lt_of_cell? _ _ hw411_0; first | rwa [add_block] at this | exact this) GW417.out)) | (show (Addr.add _ _).block ≠ _; rw [add_block]; exact Nat.ne_of_lt (Nat.lt_of_lt_of_le (by have := World.block_lt_of_cell? _ _ hw411_0; first | rwa [add_block] at this | exact this) GW417.out)) | (dsimp only; exact Nat.ne_of_lt (Nat.lt_of_lt_of_le (by have := World.block_lt_of_cell? _ _ hw411_0; first | rwa [add_block] at this | exact this) GW417.out))) _).trans (((cell_far (p := ⟨gb417, _, none⟩) (by first | exact Nat.ne_of_lt (Nat.lt_of_lt_of_le (by have := World.block_lt_of_cell? _ _ hw411_0; first | rwa [add_block] at this | exact this) GW417.out) | (rw [add_block]; exact Nat.ne_of_lt (Nat.lt_of_lt_of_le (by have := World.block_lt_of_cell? _ _ hw411_0; first | rwa [add_block] at this | exact this) GW417.out)) | (show (Addr.add _ _).block ≠ _; rw [add_block]; exact Nat.ne_of_lt (Nat.lt_of_lt_of_le (by have := World.block_lt_of_cell? _ _ hw411_0; first | rwa [add_block] at this | exact this) GW417.out)) | (dsimp only; exact Nat.ne_of_lt (Nat.lt_of_lt_of_le (by have := World.block_lt_of_cell? _ _ hw411_0; first | rwa [add_block] at this | exact this) GW417.out))) _).trans (((cell_far (p := ⟨gb417, _, none⟩) (by first | exact Nat.ne_of_lt (Nat.lt_of_lt_of_le (by have := World.block_lt_of_cell? _ _ hw411_0; first | rwa [add_block] at this | exact this) GW417.out) | (rw [add_block]; exact Nat.ne_of_lt (Nat.lt_of_lt_of_le (by have := World.block_lt_of_cell? _ _ hw411_0; first | rwa [add_block] at this | exact this) GW417.out)) | (show (Addr.add _ _).block ≠ _; rw [add_block]; exact Nat.ne_of_lt (Nat.lt_of_lt_of_le (by have := World.block_lt_of_cell? _ _ hw411_0; first | rwa [add_block] at this | exact this) GW417.out)) | (dsimp only; exact Nat.ne_of_lt (Nat.lt_of_lt_of_le (by have := World.block_lt_of_cell? _ _ hw411_0; first | rwa [add_block] at this | exact this) GW417.out))) _).trans (((cell_far (p := ⟨gb417, _, none⟩) (by first | exact Nat.ne_of_lt (Nat.lt_of_lt_of_le (by have := World.block_lt_of_cell? _ _ hw411_0; first | rwa [add_block] at this | exact this) GW417.out) | (rw [add_block]; exact Nat.ne_of_lt (Nat.lt_of_lt_of_le (by have := World.block_lt_of_cell? _ _ hw411_0; first | rwa [add_block] at this | exact this) GW417.out)) | (show (Addr.add _ _).block ≠ _; rw [add_block]; exact Nat.ne_of_lt (Nat.lt_of_lt_of_le (by have := World.block_lt_of_cell? _ _ hw411_0; first | rwa [add_block] at this | exact this) GW417.out)) | (dsimp only; exact Nat.ne_of_lt (Nat.lt_of_lt_of_le (by have := World.block_lt_of_cell? _ _ hw411_0; first | rwa [add_block] at this | exact this) GW417.out))) _).trans (hHeld.2.2.2.2))))))))⟩ (fun hHeld => ?_)
      clear hK K
      refine pure_ (i := 11) (N := some 8) (v := ?_) (a' := ?_) (bz 12 4095) rfl rfl (any_of HT_.out (by kernel_rfl)) (fun _ _ _ h => h) (Or.inl ⟨by rfl, ?_⟩) ?_ ?_
      rotate_left
      ·intro w'
       go_simp
       with_reducible rfl
      rotate_left
      ·simp only [Act.put, List.setIfInBounds_toArray, List.set_cons_zero, List.set_cons_succ, i64_w, i32_w]
       rfl
      refine done_ (done_of HT_.out (by kernel_rfl)) ?_
      have hnb30 := NB409_410.out
      have hnc30 := NB410_409.out
      have hnb31 := NB409_417.out
      have hnc31 := NB417_409.out
      have hcz32_0 : w25.cell? ⟨gb409, 0, none⟩ = some (.bool x410000_1) := (blk_cell BK409.out 0).trans rfl
      have hcz32_1 : w25.cell? ⟨gb409, 1, none⟩ = some (.bool x410001_1) := (blk_cell BK409.out 1).trans rfl
      have hcz32_2 : w25.cell? ⟨gb409, 2, none⟩ = some (.bool x410002_1) := (blk_cell BK409.out 2).trans rfl
      have hcz32_3 : w25.cell? ⟨gb409, 3, none⟩ = some (.bool x410003_1) := (blk_cell BK409.out 3).trans rfl
      have hfz32_0 := blk_frozen BK409.out 0
      have hfz32_1 := blk_frozen BK409.out 1
      have hfz32_2 := blk_frozen BK409.out 2
      have hfz32_3 := blk_frozen BK409.out 3
      have hnb33 := NB410_417.out
      have hnc33 := NB417_410.out
      have hcz34_0 : w25.cell? ⟨gb410, 0, none⟩ = some (.bool x411000_1) := (blk_cell BK410.out 0).trans rfl
      have hcz34_1 : w25.cell? ⟨gb410, 1, none⟩ = some (.bool x411001_1) := (blk_cell BK410.out 1).trans rfl
      have hcz34_2 : w25.cell? ⟨gb410, 2, none⟩ = some (.bool x411002_1) := (blk_cell BK410.out 2).trans rfl
      have hcz34_3 : w25.cell? ⟨gb410, 3, none⟩ = some (.bool x411003_1) := (blk_cell BK410.out 3).trans rfl
      have hfz34_0 := blk_frozen BK410.out 0
      have hfz34_1 := blk_frozen BK410.out 1
      have hfz34_2 := blk_frozen BK410.out 2
      have hfz34_3 := blk_frozen BK410.out 3
      try go_wp2
      refine bodyPost_ret (results_ct rfl _ _ gb410 59 #[.bool x410000_1, .bool x410001_1, .bool x410002_1, .bool x410003_1] (0, 0) _ rfl (by (with_reducible repeat (first | refine blk_drewN ?_ _ | refine blk_drew ?_ | refine blk_alloc ?_ _)); refine blk_put (cs := #[.bool x410000_1, .bool x410001_1, .bool x410002_1, .bool x411003_1]) ?_ 3 _ rfl; (with_reducible repeat (first | refine blk_drewN ?_ _ | refine blk_drew ?_ | refine blk_alloc ?_ _)); refine blk_put (cs := #[.bool x410000_1, .bool x410001_1, .bool x411002_1, .bool x411003_1]) ?_ 2 _ rfl; (with_reducible repeat (first | refine blk_drewN ?_ _ | refine blk_drew ?_ | refine blk_alloc ?_ _)); refine blk_put (cs := #[.bool x410000_1, .bool x411001_1, .bool x411002_1, .bool x411003_1]) ?_ 1 _ rfl; (with_reducible repeat (first | refine blk_drewN ?_ _ | refine blk_drew ?_ | refine blk_alloc ?_ _)); refine blk_put (cs := #[.bool x411000_1, .bool x411001_1, .bool x411002_1, .bool x411003_1]) ?_ 0 _ rfl; (with_reducible repeat (first | refine blk_drewN ?_ _ | refine blk_drew ?_ | refine blk_alloc ?_ _)); refine blk_far ?_ NB410_417.out _; (with_reducible repeat (first | refine blk_drewN ?_ _ | refine blk_drew ?_ | refine blk_alloc ?_ _)); refine blk_far ?_ NB410_417.out _; (with_reducible repeat (first | refine blk_drewN ?_ _ | refine blk_drew ?_ | refine blk_alloc ?_ _)); refine blk_far ?_ NB410_417.out _; (with_reducible repeat (first | refine blk_drewN ?_ _ | refine blk_drew ?_ | refine blk_alloc ?_ _)); refine blk_far ?_ NB410_417.out _; (with_reducible repeat (first | refine blk_drewN ?_ _ | refine blk_drew ?_ | refine blk_alloc ?_ _)); exact BK410.out) Tryd.underlying59 rfl (by kernel_rfl)) rfl ?_
      exact ⟨by first | rfl | (simp [errW_none, errW_some] <;> rfl) | (simp [*, errW_none, errW_some] <;> rfl), bw⟩
    ·rw [if_neg c6] at H
     exact absurd H (by simp)
   ·rw [if_neg c5] at H
    have c5b0 : decide (x6_1 < (l1.length : Int)) = false := decide_eq_false c5
    clear c5
    simp only [Option.some.injEq, Prod.mk.injEq] at H
    obtain ⟨rfl, rfl, rfl, rfl, rfl⟩ := H
    have hnb35 := NB409_410.out
    have hnc35 := NB410_409.out
    have hcz36_0 : wr.cell? ⟨gb409, 0, none⟩ = some (.bool x410000_1) := (blk_cell BK409.out 0).trans rfl
    have hcz36_1 : wr.cell? ⟨gb409, 1, none⟩ = some (.bool x410001_1) := (blk_cell BK409.out 1).trans rfl
    have hcz36_2 : wr.cell? ⟨gb409, 2, none⟩ = some (.bool x410002_1) := (blk_cell BK409.out 2).trans rfl
    have hcz36_3 : wr.cell? ⟨gb409, 3, none⟩ = some (.bool x410003_1) := (blk_cell BK409.out 3).trans rfl
    have hfz36_0 := blk_frozen BK409.out 0
    have hfz36_1 := blk_frozen BK409.out 1
    have hfz36_2 := blk_frozen BK409.out 2
    have hfz36_3 := blk_frozen BK409.out 3
    have hcz37_0 : wr.cell? ⟨gb410, 0, none⟩ = some (.bool x411000_1) := (blk_cell BK410.out 0).trans rfl
    have hcz37_1 : wr.cell? ⟨gb410, 1, none⟩ = some (.bool x411001_1) := (blk_cell BK410.out 1).trans rfl
    have hcz37_2 : wr.cell? ⟨gb410, 2, none⟩ = some (.bool x411002_1) := (blk_cell BK410.out 2).trans rfl
    have hcz37_3 : wr.cell? ⟨gb410, 3, none⟩ = some (.bool x411003_1) := (blk_cell BK410.out 3).trans rfl
    have hfz37_0 := blk_frozen BK410.out 0
    have hfz37_1 := blk_frozen BK410.out 1
    have hfz37_2 := blk_frozen BK410.out 2
    have hfz37_3 := blk_frozen BK410.out 3
    go_wp2
    refine bodyPost_ret (results_ct rfl _ _ gb410 59 #[.bool x410000_1, .bool x410001_1, .bool x410002_1, .bool x410003_1] (0, 0) _ rfl (by (with_reducible repeat (first | refine blk_drewN ?_ _ | refine blk_drew ?_ | refine blk_alloc ?_ _)); refine blk_put (cs := #[.bool x410000_1, .bool x410001_1, .bool x410002_1, .bool x411003_1]) ?_ 3 _ rfl; (with_reducible repeat (first | refine blk_drewN ?_ _ | refine blk_drew ?_ | refine blk_alloc ?_ _)); refine blk_put (cs := #[.bool x410000_1, .bool x410001_1, .bool x411002_1, .bool x411003_1]) ?_ 2 _ rfl; (with_reducible repeat (first | refine blk_drewN ?_ _ | refine blk_drew ?_ | refine blk_alloc ?_ _)); refine blk_put (cs := #[.bool x410000_1, .bool x411001_1, .bool x411002_1, .bool x411003_1]) ?_ 1 _ rfl; (with_reducible repeat (first | refine blk_drewN ?_ _ | refine blk_drew ?_ | refine blk_alloc ?_ _)); refine blk_put (cs := #[.bool x411000_1, .bool x411001_1, .bool x411002_1, .bool x411003_1]) ?_ 0 _ rfl; (with_reducible repeat (first | refine blk_drewN ?_ _ | refine blk_drew ?_ | refine blk_alloc ?_ _)); exact BK410.out) Tryd.underlying59 rfl (by kernel_rfl)) rfl ?_
    exact ⟨by first | rfl | (simp [errW_none, errW_some] <;> rfl) | (simp [*, errW_none, errW_some] <;> rfl), bw⟩

-- NOT PRINTED: function 14 (laws_FnBayRun)

end Go.Proofs.YtoajkfhjgnonjaaDoor.G
