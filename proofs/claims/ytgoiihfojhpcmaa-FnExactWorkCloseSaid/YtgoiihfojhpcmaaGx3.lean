-- Printed by wip/gen.py of this session's repo, over the kit's print.py. Not trusted: Lean checks it.
import Derived.Test.YtgoiihfojhpcmaaGx0
import Derived.Test.YtgoiihfojhpcmaaSq
import Derived.Test.YtgoiihfojhpcmaaGx2
namespace Go.Proofs.Ytgoiihfojhpcmaa.G
open Go.RowKit Go.Proofs.YtgoiihfojhpcmaaW.PrintWords Go.Proofs.YtgoiihfojhpcmaaW.PrintLast Go.Proofs.YtgoiihfojhpcmaaW.PrintMore Go.Proofs.Ytgoiihfojhpcmaa.Sq
attribute [local go_sem] max2_int min2_int max_two min_two max_three min_three max_four min_four   -- for this text's walks alone
set_option linter.unusedVariables false
set_option linter.unusedSimpArgs false

/-! ### spec_BayRun: function 34 -/
def spec_BayRun.l0 : Nat → List Int → Int → Bool → Bool → Bool → Bool → Option (Bool × Bool × Bool × Bool × Int)
 | 0, _, _, _, _, _, _ => none
 | k + 1, x1, x6, x119000, x119001, x119002, x119003 => if x6 < (x1.length : Int) then (if 0 ≤ x6 then ((spec_BayDo.f x119000 x119001 x119002 x119003 (rd x1 x6)).bind fun bt121 => (if bt121.2.2.2.2 = true then (spec_BayRun.l0 k x1 (wrap64 (x6 + 1)) bt121.1 bt121.2.1 bt121.2.2.1 bt121.2.2.2.1) else (some (x119000, x119001, x119002, x119003, x6)))) else (none)) else (some (x119000, x119001, x119002, x119003, (x1.length : Int)))
def spec_BayRun.f (k : Nat) (a0_0 : Bool) (a0_1 : Bool) (a0_2 : Bool) (a0_3 : Bool) (l1 : List Int) : Option (Bool × Bool × Bool × Bool × Int) := spec_BayRun.l0 k l1 0 a0_0 a0_1 a0_2 a0_3
theorem spec_BayRun.mono_l : ∀ k, (∀ y0 y1 y2 y3 y4 y5, LeO (spec_BayRun.l0 k y0 y1 y2 y3 y4 y5) (spec_BayRun.l0 (k + 1) y0 y1 y2 y3 y4 y5))
 | 0 => fun _ _ _ _ _ _ r h => by simp [spec_BayRun.l0] at h
 | k + 1 => by
  have ih0 := spec_BayRun.mono_l k
  ·intro y0 y1 y2 y3 y4 y5
   unfold spec_BayRun.l0
   repeat' first
   | (with_reducible exact ih0 _ _ _ _ _ _)
   | (with_reducible exact LeO.refl _)
   | (with_reducible exact LeO.none _)
   | (with_reducible refine LeO.ite ?_ ?_)
   | (with_reducible refine LeO.bind ?_ (fun _ => ?_))
   | exact ih0 _ _ _ _ _ _
   | exact LeO.none _
   | refine LeO.ite ?_ ?_
   | refine LeO.bind ?_ (fun _ => ?_)
theorem spec_BayRun.mono : ∀ a0 a1 a2 a3 a4 k, LeO (spec_BayRun.f k a0 a1 a2 a3 a4) (spec_BayRun.f (k + 1) a0 a1 a2 a3 a4) := by
 intro a0 a1 a2 a3 a4 k
 have ih0 := spec_BayRun.mono_l k
 unfold spec_BayRun.f
 repeat' first
   | (with_reducible exact ih0 _ _ _ _ _ _)
   | (with_reducible exact LeO.refl _)
   | (with_reducible exact LeO.none _)
   | (with_reducible refine LeO.ite ?_ ?_)
   | (with_reducible refine LeO.bind ?_ (fun _ => ?_))
   | exact ih0 _ _ _ _ _ _
   | exact LeO.none _
   | refine LeO.ite ?_ ?_
   | refine LeO.bind ?_ (fun _ => ?_)
def spec_BayRun.T4 : Bool × List (List Nat × List Nat) := (true, [([], []), ([], []), ([], []), ([1, 2], [1, 2]), ([3], [3]), ([0, 4], [0, 4]), ([5], [5]), ([6], [6]), ([6], [6]), ([], []), ([9, 7, 5, 0, 1, 2, 3, 4, 5, 6, 7, 9], [7, 9]), ([8, 10, 0, 1, 2, 3, 4, 5, 6, 7, 8, 9, 10], [8])])
def spec_BayRun.B4 : List Nat := [0, 0, 0, 6, 14, 31, 63, 127, 127, 0, 767, 2047]
theorem spec_BayRun.tab4 : rtab .any (opsOf Try.f34 4) = spec_BayRun.T4 := by kernel_rfl
theorem spec_BayRun.bits4 : waitsOk spec_BayRun.T4.2 spec_BayRun.B4 = true := by kernel_rfl
set_option maxHeartbeats 8000000 in
set_option maxRecDepth 100000 in
theorem spec_BayRun.calls (k : Nat) (a0_0 : Bool) (a0_1 : Bool) (a0_2 : Bool) (a0_3 : Bool) (A1 : Option Addr) (c1 : Nat) (l1 : List Int) (r1 : Bool) (r2 : Bool) (r3 : Bool) (r4 : Bool) (r5 : Int) (w : World) (hr1 : Kd.C (Kd.int .i64) w A1 l1.length l1) (hc1 : l1.length ≤ c1) (h : spec_BayRun.f k a0_0 a0_1 a0_2 a0_3 l1 = some (r1, r2, r3, r4, r5)) :
  Calls Try.prog 34 #[.agg #[.bool a0_0, .bool a0_1, .bool a0_2, .bool a0_3], .slice A1 l1.length c1] w fun e w' => e = .returned (.tuple #[.agg #[.bool r1, .bool r2, .bool r3, .bool r4], .int .i64 r5]) ∧ Below w.heap.size w w' := by
 have hu60 := Try.underlying60
 have HR1 := Aside0.mk hr1
 have HC1 := Aside0.mk hc1
 clear hr1 hc1
 have HB := Aside0.mk (Below.refl w.heap.size w)
 have H : (spec_BayRun.l0 k l1 0 a0_0 a0_1 a0_2 a0_3) = some (r1, r2, r3, r4, r5) := h
 clear h
 have H' := Aside0.mk H
 clear H
 go_enter Try.func34, Try.ntmps34
 go_wp2_with (first | ((with_reducible refine gate_dst (N := 2) rfl ?_); refine box_event ?hg (N := 2) ?hd (cs := #[.bool a0_0, .bool a0_1, .bool a0_2, .bool a0_3]) (t := 60) ?hr ?_; (case hd => rfl); (case hg => rfl); (case hr => first | (go_simp; done) | (go_simp; rfl)); intro gb118 hg w3 hbox hb; have n0_ := Aside0.mk (below_step bw hb); have n1_ := Aside0.mk (hbox); have n2_ := Aside0.mk ((by rw [hg]; exact (below_size bw) : w.heap.size ≤ gb118)); have n3_ := Aside0.mk ((by rw [hg]; exact (below_size bw) : w.heap.size ≤ gb118)); clear HB; have HB := n0_; have BK118 := n1_; have GW118 := n2_; have GE118 := n3_; clear n0_ n1_ n2_ n3_; clear hb hbox hg) | ((with_reducible refine gate_dst (N := 4) rfl ?_); refine box_event ?hg (N := 4) ?hd (cs := #[.bool false, .bool false, .bool false, .bool false]) (t := 60) ?hr ?_; (case hd => rfl); (case hg => rfl); (case hr => first | (go_simp; done) | (go_simp; rfl)); intro gb119 hg w4 hbox hb; have n0_ := bkB BK118 hb; have n1_ := Aside0.mk (below_step bw hb); have n2_ := Aside0.mk (hbox); have n3_ := Aside0.mk ((by rw [hg]; exact (below_size bw) : w.heap.size ≤ gb119)); have n4_ := Aside0.mk ((by rw [hg]; exact (below_size bw) : w.heap.size ≤ gb119)); have n5_ := Aside0.mk ((by rw [hg]; exact Nat.ne_of_lt (blk_lt (g := gb118) (o := .cells #[.bool a0_0, .bool a0_1, .bool a0_2, .bool a0_3] 60 (0, 0)) (bk BK118)) : gb118 ≠ gb119)); have n6_ := Aside0.mk ((by rw [hg]; exact Nat.ne_of_gt (blk_lt (g := gb118) (o := .cells #[.bool a0_0, .bool a0_1, .bool a0_2, .bool a0_3] 60 (0, 0)) (bk BK118)) : gb119 ≠ gb118)); clear BK118 HB; have BK118 := n0_; have HB := n1_; have BK119 := n2_; have GW119 := n3_; have GE119 := n4_; have NB118_119 := n5_; have NB119_118 := n6_; clear n0_ n1_ n2_ n3_ n4_ n5_ n6_; clear hb hbox hg))
 go_loopg [6] k (fun kq v6 w' => ∃ (x6_1 : Int) (x119000_1 : Bool) (x119001_1 : Bool) (x119002_1 : Bool) (x119003_1 : Bool) (x120000_1 : Bool) (x120001_1 : Bool) (x120002_1 : Bool) (x120003_1 : Bool), v6 = .int .i64 x6_1 ∧ Aside0 (spec_BayRun.l0 kq l1 x6_1 x119000_1 x119001_1 x119002_1 x119003_1 = some (r1, r2, r3, r4, r5)) ∧ Aside0 (kq ≤ k) ∧ Aside0 (w'.heap[gb118]? = some (.cells #[.bool x119000_1, .bool x119001_1, .bool x119002_1, .bool x119003_1] 60 (0, 0))) ∧ Aside0 (w'.heap[gb119]? = some (.cells #[.bool x120000_1, .bool x120001_1, .bool x120002_1, .bool x120003_1] 60 (0, 0))) ∧ Aside0 (Below w.heap.size w w'))
 case atStart => exact ⟨(0), (a0_0), (a0_1), (a0_2), (a0_3), (false), (false), (false), (false), (by first | rfl | (simp; done) | (simp [*]; done)), H', ⟨Nat.le_refl _⟩, ⟨bk BK118⟩, ⟨bk BK119⟩, ⟨bw⟩⟩
 case round =>
  clear H'
  try clear c1
  try clear p2
  try clear c3
  obtain ⟨x6_1, x119000_1, x119001_1, x119002_1, x119003_1, x120000_1, x120001_1, x120002_1, x120003_1, rfl, HA, HK1, BK118, BK119, HB⟩ := hrel
  cases gk with
  | zero => exact absurd HA.out (by simp [spec_BayRun.l0])
  | succ k1 =>
   have H := HA.out
   clear HA
   simp only [spec_BayRun.l0] at H
   by_cases c5 : x6_1 < (l1.length : Int)
   ·rw [if_pos c5] at H
    have c5b0 : decide (x6_1 < (l1.length : Int)) = true := decide_eq_true c5
    clear c5
    by_cases c6 : 0 ≤ x6_1
    ·rw [if_pos c6] at H
     have c6b0 : decide (0 ≤ x6_1) = true := decide_eq_true c6
     clear c6
     replace H := Option.bind_eq_some_iff.mp H
     obtain ⟨⟨t121, t122, t123, t124, t125⟩, A70, H⟩ := H
     replace H : (if t125 = true then (spec_BayRun.l0 k1 l1 (wrap64 (x6_1 + 1)) t121 t122 t123 t124) else (some (x119000_1, x119001_1, x119002_1, x119003_1, x6_1))) = some (r1, r2, r3, r4, r5) := H
     have A7 := Aside0.mk A70
     clear A70
     by_cases c8 : t125 = true
     ·subst c8
      have H1 : (spec_BayRun.l0 k1 l1 (wrap64 (x6_1 + 1)) t121 t122 t123 t124) = some (r1, r2, r3, r4, r5) := by rw [if_pos rfl] at H; exact H
      clear H
      have H := H1
      clear H1
      have H' := Aside0.mk H
      clear H
      try go_wp2
      have n0_ := Aside0.mk (blk_drew BK118.out)
      have n1_ := Aside0.mk (blk_drew BK119.out)
      have n2_ := Aside0.mk (below_drew1 HB.out)
      clear BK118
      clear BK119
      clear HB
      have BK118 := n0_
      have BK119 := n1_
      have HB := n2_
      clear n0_ n1_ n2_
      have p120 : 0 ≤ (x6_1 : Int) := of_decide_eq_true (by first | (with_reducible assumption) | assumption)
      have q120 : x6_1 < (l1.length : Int) := of_decide_eq_true (by first | (with_reducible assumption) | assumption)
      obtain ⟨ad120, e120, hx120_0⟩ := Kd.at_int HR1.out x6_1 p120 q120
      have hw120_0 := hx120_0
      cases e120
      replace hx120_0 := (HB.out.cell (World.block_lt_of_cell? w _ hx120_0)).trans hx120_0
      replace p120 := eq_true p120
      replace q120 := eq_true q120
      refine start_ (n := 12) (S := fun w' => w'.cell? ⟨gb118, 0, none⟩ = some (.bool x119000_1) ∧ w'.cell? ⟨gb118, 1, none⟩ = some (.bool x119001_1) ∧ w'.cell? ⟨gb118, 2, none⟩ = some (.bool x119002_1) ∧ w'.cell? ⟨gb118, 3, none⟩ = some (.bool x119003_1) ∧ w'.cell? (ad120.add (x6_1).toNat) = some (.int .i64 (rd l1 x6_1))) (ds := []) (bz 12 0) (by kernel_rfl) rfl rfl ⟨(blk_cell BK118.out 0).trans rfl, (blk_cell BK118.out 1).trans rfl, (blk_cell BK118.out 2).trans rfl, (blk_cell BK118.out 3).trans rfl, ((HB.out.cell (World.block_lt_of_cell? w _ hw120_0)).trans hw120_0)⟩ (fun hHeld => ?_); refine with_tabW spec_BayRun.tab4 spec_BayRun.bits4 (fun HT_ HW_ => ?_)
      generalize wr.drew = w9 at BK118 BK119 HB hx120_0 hHeld ⊢
      refine pure_ (i := 1) (N := some 17) (v := ?_) (a' := ?_) (bz 12 2) rfl rfl (any_of HT_.out (by kernel_rfl)) (fun _ _ _ h => h) (Or.inl ⟨by rfl, ?_⟩) ?_ ?_
      rotate_left
      ·intro w'
       go_simp
       with_reducible rfl
      rotate_left
      ·simp only [Act.put, List.setIfInBounds_toArray, List.set_cons_zero, List.set_cons_succ, i64_w, i32_w]
       rfl
      refine pure_ (i := 2) (N := some 18) (v := ?_) (a' := ?_) (bz 12 6) rfl rfl (any_of HT_.out (by kernel_rfl)) (fun _ _ _ h => h) (Or.inl ⟨by rfl, ?_⟩) ?_ ?_
      rotate_left
      ·intro w'
       go_simp
       with_reducible rfl
      rotate_left
      ·simp only [Act.put, List.setIfInBounds_toArray, List.set_cons_zero, List.set_cons_succ, i64_w, i32_w]
       rfl
      refine pure_ (i := 3) (N := some 19) (v := ?_) (a' := ?_) (bz 12 14) rfl rfl (any_of HT_.out (by kernel_rfl)) (fun _ _ _ h => h) (Or.inl ⟨by rfl, ?_⟩) ?_ ?_
      rotate_left
      ·intro w'
       go_simp
       with_reducible rfl
      rotate_left
      ·simp only [Act.put, List.setIfInBounds_toArray, List.set_cons_zero, List.set_cons_succ, i64_w, i32_w]
       rfl
      refine take_ (i := 0) (N := some 16) (v := ?_) (a' := ?_) (bz 12 15) rfl rfl (take_ofW HT_.out HW_.out (by kernel_rfl)) (fun _ _ _ h => h) (Or.inl ⟨by rfl, ?_⟩) hHeld ?_ ?_
      rotate_left
      ·rintro w' ⟨s0, s1, s2, s3, s4⟩
       go_simp
       with_reducible rfl
      rotate_left
      ·simp only [Act.put, List.setIfInBounds_toArray, List.set_cons_zero, List.set_cons_succ, i64_w, i32_w]
       rfl
      refine take_ (i := 4) (N := some 20) (v := ?_) (a' := ?_) (bz 12 31) rfl rfl (take_ofW HT_.out HW_.out (by kernel_rfl)) (fun _ _ _ h => h) (Or.inl ⟨by rfl, ?_⟩) hHeld ?_ ?_
      rotate_left
      ·rintro w' ⟨s0, s1, s2, s3, s4⟩
       go_simp
       with_reducible rfl
      rotate_left
      ·simp only [Act.put, List.setIfInBounds_toArray, List.set_cons_zero, List.set_cons_succ, i64_w, i32_w]
       rfl
      refine join_ (σ := Nat) 2 (bz 12 1023) (fun s_ => [(21, .tuple #[.agg #[.bool t121, .bool t122, .bool t123, .bool t124], .bool true]), (7, .pointer (some ⟨s_, 0, none⟩)), (15, .tuple #[.agg #[.bool t121, .bool t122, .bool t123, .bool t124], .bool true]), (22, .agg #[.bool t121, .bool t122, .bool t123, .bool t124]), (23, .bool true)]) (fun s_ w' => (w'.cell? ⟨gb118, 0, none⟩ = some (.bool x119000_1) ∧ w'.cell? ⟨gb118, 1, none⟩ = some (.bool x119001_1) ∧ w'.cell? ⟨gb118, 2, none⟩ = some (.bool x119002_1) ∧ w'.cell? ⟨gb118, 3, none⟩ = some (.bool x119003_1) ∧ w'.cell? (ad120.add (x6_1).toNat) = some (.int .i64 (rd l1 x6_1))) ∧ (w'.heap[gb118]? = some (.cells #[.bool x119000_1, .bool x119001_1, .bool x119002_1, .bool x119003_1] 60 (0, 0))) ∧ (w'.heap[gb119]? = some (.cells #[.bool x120000_1, .bool x120001_1, .bool x120002_1, .bool x120003_1] 60 (0, 0))) ∧ (w'.heap[s_]? = some (.cells #[.bool false, .bool false, .bool false, .bool false] 60 (0, 0))) ∧ (w.heap.size ≤ s_) ∧ (w.heap.size ≤ s_) ∧ (gb118 ≠ s_) ∧ (s_ ≠ gb118) ∧ (gb119 ≠ s_) ∧ (s_ ≠ gb119) ∧ (Below w.heap.size w w')) ?_ ?_
      rotate_left
      ·intro hCont
       refine two_ (i := 5) (j := 9) (Ni := some 21) (Nj := some 7) (bz 12 63) (bz 12 543) rfl rfl rfl rfl (two_of HT_.out (by kernel_rfl)) (by decide) (by decide) (fun K hK => ?_) (fun K hK => ?_)
       ·skip
        refine goes_ Try.func73 (by kernel_rfl) rfl #[.agg #[.bool x119000_1, .bool x119001_1, .bool x119002_1, .bool x119003_1], .int .i64 (rd l1 x6_1)] (by rfl) rfl rfl (by (try simp only [List.map_toArray, List.map_cons, List.map_nil]); first | done | rfl | (simp only [List.length_drop, List.length_take]; rfl)) ?_
        with_reducible refine (spec_BayDo.calls x119000_1 x119001_1 x119002_1 x119003_1 (rd l1 x6_1) t121 t122 t123 t124 true _ A7.out).mono ?_
        rintro e w10 ⟨rfl, hb⟩
        refine ⟨_, rfl, ?_⟩
        have n0_ := bkB BK118 hb
        have n1_ := bkB BK119 hb
        have n2_ := Aside0.mk (below_step bw hb)
        clear BK118
        clear BK119
        clear HB
        have BK118 := n0_
        have BK119 := n1_
        have HB := n2_
        clear n0_ n1_ n2_
        (try clear hb)
        (try clear hb2)
        (try clear hk)
        (try clear hi)
        refine hK.out _ _ ⟨(blk_cell BK118.out 0).trans rfl, (blk_cell BK118.out 1).trans rfl, (blk_cell BK118.out 2).trans rfl, (blk_cell BK118.out 3).trans rfl, ((HB.out.cell (World.block_lt_of_cell? w _ hw120_0)).trans hw120_0)⟩ (fun hHeld => ?_)
        clear hK K
        refine norm_ (a' := ?_) ?_ ?_
        rotate_left
        ·show Act.put _ (some 21) _ = _
         simp only [Act.put, List.setIfInBounds_toArray, List.set_cons_zero, List.set_cons_succ, i64_w, i32_w]
         rfl
        refine pure_ (i := 6) (N := some 15) (v := ?_) (a' := ?_) (bz 12 127) rfl rfl (any_of HT_.out (by kernel_rfl)) (fun _ _ _ h => h) (Or.inl ⟨by rfl, ?_⟩) ?_ ?_
        rotate_left
        ·intro w'
         go_simp
         with_reducible rfl
        rotate_left
        ·simp only [Act.put, List.setIfInBounds_toArray, List.set_cons_zero, List.set_cons_succ, i64_w, i32_w]
         rfl
        refine pure_ (i := 7) (N := some 22) (v := ?_) (a' := ?_) (bz 12 255) rfl rfl (any_of HT_.out (by kernel_rfl)) (fun _ _ _ h => h) (Or.inl ⟨by rfl, ?_⟩) ?_ ?_
        rotate_left
        ·intro w'
         go_simp
         with_reducible rfl
        rotate_left
        ·simp only [Act.put, List.setIfInBounds_toArray, List.set_cons_zero, List.set_cons_succ, i64_w, i32_w]
         rfl
        refine pure_ (i := 8) (N := some 23) (v := ?_) (a' := ?_) (bz 12 511) rfl rfl (any_of HT_.out (by kernel_rfl)) (fun _ _ _ h => h) (Or.inl ⟨by rfl, ?_⟩) ?_ ?_
        rotate_left
        ·intro w'
         go_simp
         with_reducible rfl
        rotate_left
        ·simp only [Act.put, List.setIfInBounds_toArray, List.set_cons_zero, List.set_cons_succ, i64_w, i32_w]
         rfl
        refine one_ (i := 9) (N := some 7) (bz 12 1023) rfl rfl (one_of HT_.out (by kernel_rfl)) (by decide) (fun K hK => ?_)
        refine box_step ?hg (N := 7) ?hd (cs := #[.bool false, .bool false, .bool false, .bool false]) (t := 60) ?hr ?_; (case hd => rfl); (case hg => rfl); (case hr => first | (go_simp; done) | (go_simp; rfl))
        intro gb126 hg w11 hbox hb
        have n0_ := bkB BK118 hb
        have n1_ := bkB BK119 hb
        have n2_ := Aside0.mk (below_step bw hb)
        have n3_ := Aside0.mk (hbox)
        have n4_ := Aside0.mk ((by rw [hg]; exact (below_size bw) : w.heap.size ≤ gb126))
        have n5_ := Aside0.mk ((by rw [hg]; exact (below_size bw) : w.heap.size ≤ gb126))
        have n6_ := Aside0.mk ((by rw [hg]; exact Nat.ne_of_lt (blk_lt (g := gb118) (o := .cells #[.bool x119000_1, .bool x119001_1, .bool x119002_1, .bool x119003_1] 60 (0, 0)) (bk BK118)) : gb118 ≠ gb126))
        have n7_ := Aside0.mk ((by rw [hg]; exact Nat.ne_of_gt (blk_lt (g := gb118) (o := .cells #[.bool x119000_1, .bool x119001_1, .bool x119002_1, .bool x119003_1] 60 (0, 0)) (bk BK118)) : gb126 ≠ gb118))
        have n8_ := Aside0.mk ((by rw [hg]; exact Nat.ne_of_lt (blk_lt (g := gb119) (o := .cells #[.bool x120000_1, .bool x120001_1, .bool x120002_1, .bool x120003_1] 60 (0, 0)) (bk BK119)) : gb119 ≠ gb126))
        have n9_ := Aside0.mk ((by rw [hg]; exact Nat.ne_of_gt (blk_lt (g := gb119) (o := .cells #[.bool x120000_1, .bool x120001_1, .bool x120002_1, .bool x120003_1] 60 (0, 0)) (bk BK119)) : gb126 ≠ gb119))
        clear BK118
        clear BK119
        clear HB
        have BK118 := n0_
        have BK119 := n1_
        have HB := n2_
        have BK126 := n3_
        have GW126 := n4_
        have GE126 := n5_
        have NB118_126 := n6_
        have NB126_118 := n7_
        have NB119_126 := n8_
        have NB126_119 := n9_
        clear n0_ n1_ n2_ n3_ n4_ n5_ n6_ n7_ n8_ n9_
        clear hb hbox hg
        refine hK.out _ _ ⟨(blk_cell BK118.out 0).trans rfl, (blk_cell BK118.out 1).trans rfl, (blk_cell BK118.out 2).trans rfl, (blk_cell BK118.out 3).trans rfl, ((HB.out.cell (World.block_lt_of_cell? w _ hw120_0)).trans hw120_0)⟩ (fun hHeld => ?_)
        clear hK K
        refine norm_ (a' := ?_) ?_ ?_
        rotate_left
        ·show Act.put _ (some 7) _ = _
         simp only [Act.put, List.setIfInBounds_toArray, List.set_cons_zero, List.set_cons_succ, i64_w, i32_w]
         rfl
        exact norm_ (by simp only [putAll, Act.put, List.setIfInBounds_toArray, List.set_cons_zero, List.set_cons_succ]) (hCont (gb126) _ ⟨hHeld, (bk BK118), (bk BK119), (bk BK126), GW126.out, GE126.out, NB118_126.out, NB126_118.out, NB119_126.out, NB126_119.out, bw⟩)
       ·skip
        refine box_step ?hg (N := 7) ?hd (cs := #[.bool false, .bool false, .bool false, .bool false]) (t := 60) ?hr ?_; (case hd => rfl); (case hg => rfl); (case hr => first | (go_simp; done) | (go_simp; rfl))
        intro gb126 hg w10 hbox hb
        have n0_ := bkB BK118 hb
        have n1_ := bkB BK119 hb
        have n2_ := Aside0.mk (below_step bw hb)
        have n3_ := Aside0.mk (hbox)
        have n4_ := Aside0.mk ((by rw [hg]; exact (below_size bw) : w.heap.size ≤ gb126))
        have n5_ := Aside0.mk ((by rw [hg]; exact (below_size bw) : w.heap.size ≤ gb126))
        have n6_ := Aside0.mk ((by rw [hg]; exact Nat.ne_of_lt (blk_lt (g := gb118) (o := .cells #[.bool x119000_1, .bool x119001_1, .bool x119002_1, .bool x119003_1] 60 (0, 0)) (bk BK118)) : gb118 ≠ gb126))
        have n7_ := Aside0.mk ((by rw [hg]; exact Nat.ne_of_gt (blk_lt (g := gb118) (o := .cells #[.bool x119000_1, .bool x119001_1, .bool x119002_1, .bool x119003_1] 60 (0, 0)) (bk BK118)) : gb126 ≠ gb118))
        have n8_ := Aside0.mk ((by rw [hg]; exact Nat.ne_of_lt (blk_lt (g := gb119) (o := .cells #[.bool x120000_1, .bool x120001_1, .bool x120002_1, .bool x120003_1] 60 (0, 0)) (bk BK119)) : gb119 ≠ gb126))
        have n9_ := Aside0.mk ((by rw [hg]; exact Nat.ne_of_gt (blk_lt (g := gb119) (o := .cells #[.bool x120000_1, .bool x120001_1, .bool x120002_1, .bool x120003_1] 60 (0, 0)) (bk BK119)) : gb126 ≠ gb119))
        clear BK118
        clear BK119
        clear HB
        have BK118 := n0_
        have BK119 := n1_
        have HB := n2_
        have BK126 := n3_
        have GW126 := n4_
        have GE126 := n5_
        have NB118_126 := n6_
        have NB126_118 := n7_
        have NB119_126 := n8_
        have NB126_119 := n9_
        clear n0_ n1_ n2_ n3_ n4_ n5_ n6_ n7_ n8_ n9_
        clear hb hbox hg
        refine hK.out _ _ ⟨(blk_cell BK118.out 0).trans rfl, (blk_cell BK118.out 1).trans rfl, (blk_cell BK118.out 2).trans rfl, (blk_cell BK118.out 3).trans rfl, ((HB.out.cell (World.block_lt_of_cell? w _ hw120_0)).trans hw120_0)⟩ (fun hHeld => ?_)
        clear hK K
        refine norm_ (a' := ?_) ?_ ?_
        rotate_left
        ·show Act.put _ (some 7) _ = _
         simp only [Act.put, List.setIfInBounds_toArray, List.set_cons_zero, List.set_cons_succ, i64_w, i32_w]
         rfl
        refine one_ (i := 5) (N := some 21) (bz 12 575) rfl rfl (one_of HT_.out (by kernel_rfl)) (by decide) (fun K hK => ?_)
        refine goes_ Try.func73 (by kernel_rfl) rfl #[.agg #[.bool x119000_1, .bool x119001_1, .bool x119002_1, .bool x119003_1], .int .i64 (rd l1 x6_1)] (by rfl) rfl rfl (by (try simp only [List.map_toArray, List.map_cons, List.map_nil]); first | done | rfl | (simp only [List.length_drop, List.length_take]; rfl)) ?_
        with_reducible refine (spec_BayDo.calls x119000_1 x119001_1 x119002_1 x119003_1 (rd l1 x6_1) t121 t122 t123 t124 true _ A7.out).mono ?_
        rintro e w11 ⟨rfl, hb⟩
        refine ⟨_, rfl, ?_⟩
        have n0_ := bkB BK118 hb
        have n1_ := bkB BK119 hb
        have n2_ := bkB BK126 hb
        have n3_ := Aside0.mk (below_step bw hb)
        clear BK118
        clear BK119
        clear BK126
        clear HB
        have BK118 := n0_
        have BK119 := n1_
        have BK126 := n2_
        have HB := n3_
        clear n0_ n1_ n2_ n3_
        (try clear hb)
        (try clear hb2)
        (try clear hk)
        (try clear hi)
        refine hK.out _ _ ⟨(blk_cell BK118.out 0).trans rfl, (blk_cell BK118.out 1).trans rfl, (blk_cell BK118.out 2).trans rfl, (blk_cell BK118.out 3).trans rfl, ((HB.out.cell (World.block_lt_of_cell? w _ hw120_0)).trans hw120_0)⟩ (fun hHeld => ?_)
        clear hK K
        refine norm_ (a' := ?_) ?_ ?_
        rotate_left
        ·show Act.put _ (some 21) _ = _
         simp only [Act.put, List.setIfInBounds_toArray, List.set_cons_zero, List.set_cons_succ, i64_w, i32_w]
         rfl
        refine pure_ (i := 6) (N := some 15) (v := ?_) (a' := ?_) (bz 12 639) rfl rfl (any_of HT_.out (by kernel_rfl)) (fun _ _ _ h => h) (Or.inl ⟨by rfl, ?_⟩) ?_ ?_
        rotate_left
        ·intro w'
         go_simp
         with_reducible rfl
        rotate_left
        ·simp only [Act.put, List.setIfInBounds_toArray, List.set_cons_zero, List.set_cons_succ, i64_w, i32_w]
         rfl
        refine pure_ (i := 7) (N := some 22) (v := ?_) (a' := ?_) (bz 12 767) rfl rfl (any_of HT_.out (by kernel_rfl)) (fun _ _ _ h => h) (Or.inl ⟨by rfl, ?_⟩) ?_ ?_
        rotate_left
        ·intro w'
         go_simp
         with_reducible rfl
        rotate_left
        ·simp only [Act.put, List.setIfInBounds_toArray, List.set_cons_zero, List.set_cons_succ, i64_w, i32_w]
         rfl
        refine pure_ (i := 8) (N := some 23) (v := ?_) (a' := ?_) (bz 12 1023) rfl rfl (any_of HT_.out (by kernel_rfl)) (fun _ _ _ h => h) (Or.inl ⟨by rfl, ?_⟩) ?_ ?_
        rotate_left
        ·intro w'
         go_simp
         with_reducible rfl
        rotate_left
        ·simp only [Act.put, List.setIfInBounds_toArray, List.set_cons_zero, List.set_cons_succ, i64_w, i32_w]
         rfl
        exact norm_ (by simp only [putAll, Act.put, List.setIfInBounds_toArray, List.set_cons_zero, List.set_cons_succ]) (hCont (gb126) _ ⟨hHeld, (bk BK118), (bk BK119), (bk BK126), GW126.out, GE126.out, NB118_126.out, NB126_118.out, NB119_126.out, NB126_119.out, bw⟩)
      rintro gb126 w12 ⟨hS_, h0_, h1_, h2_, h3_, h4_, h5_, h6_, h7_, h8_, h9_⟩
      have n0_ : Aside0 (w12.heap[gb118]? = some (.cells #[.bool x119000_1, .bool x119001_1, .bool x119002_1, .bool x119003_1] 60 (0, 0))) := ⟨h0_⟩
      have n1_ : Aside0 (w12.heap[gb119]? = some (.cells #[.bool x120000_1, .bool x120001_1, .bool x120002_1, .bool x120003_1] 60 (0, 0))) := ⟨h1_⟩
      have n2_ : Aside0 (w12.heap[gb126]? = some (.cells #[.bool false, .bool false, .bool false, .bool false] 60 (0, 0))) := ⟨h2_⟩
      have n3_ : Aside0 (w.heap.size ≤ gb126) := ⟨h3_⟩
      have n4_ : Aside0 (w.heap.size ≤ gb126) := ⟨h4_⟩
      have n5_ : Aside0 (gb118 ≠ gb126) := ⟨h5_⟩
      have n6_ : Aside0 (gb126 ≠ gb118) := ⟨h6_⟩
      have n7_ : Aside0 (gb119 ≠ gb126) := ⟨h7_⟩
      have n8_ : Aside0 (gb126 ≠ gb119) := ⟨h8_⟩
      have n9_ : Aside0 (Below w.heap.size w w12) := ⟨h9_⟩
      clear BK118
      clear BK119
      clear HB
      clear h0_ h1_ h2_ h3_ h4_ h5_ h6_ h7_ h8_ h9_
      have BK118 := n0_
      have BK119 := n1_
      have BK126 := n2_
      have GW126 := n3_
      have GE126 := n4_
      have NB118_126 := n5_
      have NB126_118 := n6_
      have NB119_126 := n7_
      have NB126_119 := n8_
      have HB := n9_
      clear n0_ n1_ n2_ n3_ n4_ n5_ n6_ n7_ n8_ n9_
      have hHeld : w12.cell? ⟨gb118, 0, none⟩ = some (.bool x119000_1) ∧ w12.cell? ⟨gb118, 1, none⟩ = some (.bool x119001_1) ∧ w12.cell? ⟨gb118, 2, none⟩ = some (.bool x119002_1) ∧ w12.cell? ⟨gb118, 3, none⟩ = some (.bool x119003_1) ∧ w12.cell? (ad120.add (x6_1).toNat) = some (.int .i64 (rd l1 x6_1)) := hS_
      refine norm_ (a' := ?_) ?_ ?_
      rotate_left
      ·simp only [putAll, Act.put, List.setIfInBounds_toArray, List.set_cons_zero, List.set_cons_succ]
       rfl
      refine one_ (i := 10) (N := none) (bz 12 2047) rfl rfl (one_of HT_.out (by kernel_rfl)) (by decide) (fun K hK => ?_)
      have hs13 : w12.cell? ⟨gb126, 0, none⟩ = some (.bool false) := (blk_cell BK126.out 0).trans rfl
      have hfs13 := blk_frozen BK126.out 0
      have hns13_0 := NB118_126.out
      have hns13_1 := NB119_126.out
      have hms13_0 := NB126_118.out
      have hms13_1 := NB126_119.out
      have hs14 : w12.cell? ⟨gb126, 1, none⟩ = some (.bool false) := (blk_cell BK126.out 1).trans rfl
      have hfs14 := blk_frozen BK126.out 1
      have hns14_0 := NB118_126.out
      have hns14_1 := NB119_126.out
      have hms14_0 := NB126_118.out
      have hms14_1 := NB126_119.out
      have hs15 : w12.cell? ⟨gb126, 2, none⟩ = some (.bool false) := (blk_cell BK126.out 2).trans rfl
      have hfs15 := blk_frozen BK126.out 2
      have hns15_0 := NB118_126.out
      have hns15_1 := NB119_126.out
      have hms15_0 := NB126_118.out
      have hms15_1 := NB126_119.out
      have hs16 : w12.cell? ⟨gb126, 3, none⟩ = some (.bool false) := (blk_cell BK126.out 3).trans rfl
      have hfs16 := blk_frozen BK126.out 3
      have hns16_0 := NB118_126.out
      have hns16_1 := NB119_126.out
      have hms16_0 := NB126_118.out
      have hms16_1 := NB126_119.out
      refine skip_ (w1 := ?_) (by rfl) rfl ?_ ?_
      rotate_left
      ·go_simp
       rfl
      refine hK.out _ _ ⟨((cell_far (p := ⟨gb126, _, none⟩) NB118_126.out _).trans (((cell_far (p := ⟨gb126, _, none⟩) NB118_126.out _).trans (((cell_far (p := ⟨gb126, _, none⟩) NB118_126.out _).trans (((cell_far (p := ⟨gb126, _, none⟩) NB118_126.out _).trans (hHeld.1)))))))), ((cell_far (p := ⟨gb126, _, none⟩) NB118_126.out _).trans (((cell_far (p := ⟨gb126, _, none⟩) NB118_126.out _).trans (((cell_far (p := ⟨gb126, _, none⟩) NB118_126.out _).trans (((cell_far (p := ⟨gb126, _, none⟩) NB118_126.out _).trans (hHeld.2.1)))))))), ((cell_far (p := ⟨gb126, _, none⟩) NB118_126.out _).trans (((cell_far (p := ⟨gb126, _, none⟩) NB118_126.out _).trans (((cell_far (p := ⟨gb126, _, none⟩) NB118_126.out _).trans (((cell_far (p := ⟨gb126, _, none⟩) NB118_126.out _).trans (hHeld.2.2.1)))))))), ((cell_far (p := ⟨gb126, _, none⟩) NB118_126.out _).trans (((cell_far (p := ⟨gb126, _, none⟩) NB118_126.out _).trans (((cell_far (p := ⟨gb126, _, none⟩) NB118_126.out _).trans (((cell_far (p := ⟨gb126, _, none⟩) NB118_126.out _).trans (hHeld.2.2.2.1)))))))), ((cell_far (p := ⟨gb126, _, none⟩) (by first | exact Nat.ne_of_lt (Nat.lt_of_lt_of_le (by have := World.block_lt_of_cell? _ _ hw120_0; first | rwa [add_block] at this | exact this) GW126.out) | (rw [add_block]; exact Nat.ne_of_lt (Nat.lt_of_lt_of_le (by have := World.block_lt_of_cell? _ _ hw120_0; first | rwa [add_block] at this | exact this) GW126.out)) | (show (Addr.add _ _).block ≠ _; rw [add_block]; exact Nat.ne_of_lt (Nat.lt_of_lt_of_le (by have := World.block_lt_of_cell? _ _ hw120_0; first | rwa [add_block] at this | exact this) GW126.out)) | (dsimp only; exact Nat.ne_of_lt (Nat.lt_of_lt_of_le (by have := World.block_lt_of_cell? _ _ hw120_0; first | rwa [add_block] at this | exact this) GW126.out))) _).trans (((cell_far (p := ⟨gb126, _, none⟩) (by first | exact Nat.ne_of_lt (Nat.lt_of_lt_of_le (by have := World.block_lt_of_cell? _ _ hw120_0; first | rwa [add_block] at this | exact this) GW126.out) | (rw [add_block]; exact Nat.ne_of_lt (Nat.lt_of_lt_of_le (by have := World.block_lt_of_cell? _ _ hw120_0; first | rwa [add_block] at this | exact this) GW126.out)) | (show (Addr.add _ _).block ≠ _; rw [add_block]; exact Nat.ne_of_lt (Nat.lt_of_lt_of_le (by have := World.block_lt_of_cell? _ _ hw120_0; first | rwa [add_block] at this | exact this) GW126.out)) | (dsimp only; exact Nat.ne_of_lt (Nat.lt_of_lt_of_le (by have := World.block_lt_of_cell? _ _ hw120_0; first | rwa [add_block] at this | exact this) GW126.out))) _).trans (((cell_far (p := ⟨gb126, _, none⟩) (by first | exact Nat.ne_of_lt (Nat.lt_of_lt_of_le (by have := World.block_lt_of_cell? _ _ hw120_0; first | rwa [add_block] at this | exact this) GW126.out) | (rw [add_block]; exact Nat.ne_of_lt (Nat.lt_of_lt_of_le (by have := World.block_lt_of_cell? _ _ hw120_0; first | rwa [add_block] at this | exact this) GW126.out)) | (show (Addr.add _ _).block ≠ _; rw [add_block]; exact Nat.ne_of_lt (Nat.lt_of_lt_of_le (by have := World.block_lt_of_cell? _ _ hw120_0; first | rwa [add_block] at this | exact this) GW126.out)) | (dsimp only; exact Nat.ne_of_lt (Nat.lt_of_lt_of_le (by have := World.block_lt_of_cell? _ _ hw120_0; first | rwa [add_block] at this | exact this) GW126.out))) _).trans (((cell_far (p := ⟨gb126, _, none⟩) (by first | exact Nat.ne_of_lt (Nat.lt_of_lt_of_le (by have := World.block_lt_of_cell? _ _ hw120_0; first | rwa [add_block] at this | exact this) GW126.out) | (rw [add_block]; exact Nat.ne_of_lt (Nat.lt_of_lt_of_le (by have := World.block_lt_of_cell? _ _ hw120_0; first | rwa [add_block] at this | exact this) GW126.out)) | (show (Addr.add _ _).block ≠ _; rw [add_block]; exact Nat.ne_of_lt (Nat.lt_of_lt_of_le (by have := World.block_lt_of_cell? _ _ hw120_0; first | rwa [add_block] at this | exact this) GW126.out)) | (dsimp only; exact Nat.ne_of_lt (Nat.lt_of_lt_of_le (by have := World.block_lt_of_cell? _ _ hw120_0; first | rwa [add_block] at this | exact this) GW126.out))) _).trans (hHeld.2.2.2.2))))))))⟩ (fun hHeld => ?_)
      clear hK K
      refine pure_ (i := 11) (N := some 8) (v := ?_) (a' := ?_) (bz 12 4095) rfl rfl (any_of HT_.out (by kernel_rfl)) (fun _ _ _ h => h) (Or.inl ⟨by rfl, ?_⟩) ?_ ?_
      rotate_left
      ·intro w'
       go_simp
       with_reducible rfl
      rotate_left
      ·simp only [Act.put, List.setIfInBounds_toArray, List.set_cons_zero, List.set_cons_succ, i64_w, i32_w]
       rfl
      refine done_ (done_of HT_.out (by kernel_rfl)) ?_
      have hnb17 := NB126_118.out
      have hnc17 := NB118_126.out
      have hnb18 := NB126_119.out
      have hnc18 := NB119_126.out
      have hcz19_0 : w12.cell? ⟨gb126, 0, none⟩ = some (.bool false) := (blk_cell BK126.out 0).trans rfl
      have hcz19_1 : w12.cell? ⟨gb126, 1, none⟩ = some (.bool false) := (blk_cell BK126.out 1).trans rfl
      have hcz19_2 : w12.cell? ⟨gb126, 2, none⟩ = some (.bool false) := (blk_cell BK126.out 2).trans rfl
      have hcz19_3 : w12.cell? ⟨gb126, 3, none⟩ = some (.bool false) := (blk_cell BK126.out 3).trans rfl
      have hfz19_0 := blk_frozen BK126.out 0
      have hfz19_1 := blk_frozen BK126.out 1
      have hfz19_2 := blk_frozen BK126.out 2
      have hfz19_3 := blk_frozen BK126.out 3
      have hnb20 := NB118_119.out
      have hnc20 := NB119_118.out
      have hcz21_0 : w12.cell? ⟨gb118, 0, none⟩ = some (.bool x119000_1) := (blk_cell BK118.out 0).trans rfl
      have hcz21_1 : w12.cell? ⟨gb118, 1, none⟩ = some (.bool x119001_1) := (blk_cell BK118.out 1).trans rfl
      have hcz21_2 : w12.cell? ⟨gb118, 2, none⟩ = some (.bool x119002_1) := (blk_cell BK118.out 2).trans rfl
      have hcz21_3 : w12.cell? ⟨gb118, 3, none⟩ = some (.bool x119003_1) := (blk_cell BK118.out 3).trans rfl
      have hfz21_0 := blk_frozen BK118.out 0
      have hfz21_1 := blk_frozen BK118.out 1
      have hfz21_2 := blk_frozen BK118.out 2
      have hfz21_3 := blk_frozen BK118.out 3
      try go_wp2
      go_roundg k1
      case measure => have := HK1.out; omega
      case rel => exact ⟨(wrap64 (x6_1 + 1)), (t121), (t122), (t123), (t124), (x120000_1), (x120001_1), (x120002_1), (x120003_1), (by first | rfl | (simp; done) | (simp [*]; done)), H', ⟨by have := HK1.out; omega⟩, ⟨by (with_reducible repeat (first | refine blk_drewN ?_ _ | refine blk_drew ?_ | refine blk_alloc ?_ _)); refine blk_put (cs := #[.bool t121, .bool t122, .bool t123, .bool x119003_1]) ?_ 3 _ rfl; (with_reducible repeat (first | refine blk_drewN ?_ _ | refine blk_drew ?_ | refine blk_alloc ?_ _)); refine blk_put (cs := #[.bool t121, .bool t122, .bool x119002_1, .bool x119003_1]) ?_ 2 _ rfl; (with_reducible repeat (first | refine blk_drewN ?_ _ | refine blk_drew ?_ | refine blk_alloc ?_ _)); refine blk_put (cs := #[.bool t121, .bool x119001_1, .bool x119002_1, .bool x119003_1]) ?_ 1 _ rfl; (with_reducible repeat (first | refine blk_drewN ?_ _ | refine blk_drew ?_ | refine blk_alloc ?_ _)); refine blk_put (cs := #[.bool x119000_1, .bool x119001_1, .bool x119002_1, .bool x119003_1]) ?_ 0 _ rfl; (with_reducible repeat (first | refine blk_drewN ?_ _ | refine blk_drew ?_ | refine blk_alloc ?_ _)); refine blk_far ?_ NB118_126.out _; (with_reducible repeat (first | refine blk_drewN ?_ _ | refine blk_drew ?_ | refine blk_alloc ?_ _)); refine blk_far ?_ NB118_126.out _; (with_reducible repeat (first | refine blk_drewN ?_ _ | refine blk_drew ?_ | refine blk_alloc ?_ _)); refine blk_far ?_ NB118_126.out _; (with_reducible repeat (first | refine blk_drewN ?_ _ | refine blk_drew ?_ | refine blk_alloc ?_ _)); refine blk_far ?_ NB118_126.out _; (with_reducible repeat (first | refine blk_drewN ?_ _ | refine blk_drew ?_ | refine blk_alloc ?_ _)); exact BK118.out⟩, ⟨by (with_reducible repeat (first | refine blk_drewN ?_ _ | refine blk_drew ?_ | refine blk_alloc ?_ _)); refine blk_far ?_ NB119_118.out _; (with_reducible repeat (first | refine blk_drewN ?_ _ | refine blk_drew ?_ | refine blk_alloc ?_ _)); refine blk_far ?_ NB119_118.out _; (with_reducible repeat (first | refine blk_drewN ?_ _ | refine blk_drew ?_ | refine blk_alloc ?_ _)); refine blk_far ?_ NB119_118.out _; (with_reducible repeat (first | refine blk_drewN ?_ _ | refine blk_drew ?_ | refine blk_alloc ?_ _)); refine blk_far ?_ NB119_118.out _; (with_reducible repeat (first | refine blk_drewN ?_ _ | refine blk_drew ?_ | refine blk_alloc ?_ _)); refine blk_far ?_ NB119_126.out _; (with_reducible repeat (first | refine blk_drewN ?_ _ | refine blk_drew ?_ | refine blk_alloc ?_ _)); refine blk_far ?_ NB119_126.out _; (with_reducible repeat (first | refine blk_drewN ?_ _ | refine blk_drew ?_ | refine blk_alloc ?_ _)); refine blk_far ?_ NB119_126.out _; (with_reducible repeat (first | refine blk_drewN ?_ _ | refine blk_drew ?_ | refine blk_alloc ?_ _)); refine blk_far ?_ NB119_126.out _; (with_reducible repeat (first | refine blk_drewN ?_ _ | refine blk_drew ?_ | refine blk_alloc ?_ _)); exact BK119.out⟩, ⟨bw⟩⟩
     ·replace c8 := Bool.eq_false_iff.mpr c8
      subst c8
      have H1 : (some (x119000_1, x119001_1, x119002_1, x119003_1, x6_1)) = some (r1, r2, r3, r4, r5) := by rw [if_neg (show ¬ (false = true) by decide)] at H; exact H
      clear H
      have H := H1
      clear H1
      simp only [Option.some.injEq, Prod.mk.injEq] at H
      obtain ⟨rfl, rfl, rfl, rfl, rfl⟩ := H
      try go_wp2
      have n0_ := Aside0.mk (blk_drew BK118.out)
      have n1_ := Aside0.mk (blk_drew BK119.out)
      have n2_ := Aside0.mk (below_drew1 HB.out)
      clear BK118
      clear BK119
      clear HB
      have BK118 := n0_
      have BK119 := n1_
      have HB := n2_
      clear n0_ n1_ n2_
      have p120 : 0 ≤ (x6_1 : Int) := of_decide_eq_true (by first | (with_reducible assumption) | assumption)
      have q120 : x6_1 < (l1.length : Int) := of_decide_eq_true (by first | (with_reducible assumption) | assumption)
      obtain ⟨ad120, e120, hx120_0⟩ := Kd.at_int HR1.out x6_1 p120 q120
      have hw120_0 := hx120_0
      cases e120
      replace hx120_0 := (HB.out.cell (World.block_lt_of_cell? w _ hx120_0)).trans hx120_0
      replace p120 := eq_true p120
      replace q120 := eq_true q120
      refine start_ (n := 12) (S := fun w' => w'.cell? ⟨gb118, 0, none⟩ = some (.bool x119000_1) ∧ w'.cell? ⟨gb118, 1, none⟩ = some (.bool x119001_1) ∧ w'.cell? ⟨gb118, 2, none⟩ = some (.bool x119002_1) ∧ w'.cell? ⟨gb118, 3, none⟩ = some (.bool x119003_1) ∧ w'.cell? (ad120.add (x6_1).toNat) = some (.int .i64 (rd l1 x6_1))) (ds := []) (bz 12 0) (by kernel_rfl) rfl rfl ⟨(blk_cell BK118.out 0).trans rfl, (blk_cell BK118.out 1).trans rfl, (blk_cell BK118.out 2).trans rfl, (blk_cell BK118.out 3).trans rfl, ((HB.out.cell (World.block_lt_of_cell? w _ hw120_0)).trans hw120_0)⟩ (fun hHeld => ?_); refine with_tabW spec_BayRun.tab4 spec_BayRun.bits4 (fun HT_ HW_ => ?_)
      generalize wr.drew = w22 at BK118 BK119 HB hx120_0 hHeld ⊢
      refine pure_ (i := 1) (N := some 17) (v := ?_) (a' := ?_) (bz 12 2) rfl rfl (any_of HT_.out (by kernel_rfl)) (fun _ _ _ h => h) (Or.inl ⟨by rfl, ?_⟩) ?_ ?_
      rotate_left
      ·intro w'
       go_simp
       with_reducible rfl
      rotate_left
      ·simp only [Act.put, List.setIfInBounds_toArray, List.set_cons_zero, List.set_cons_succ, i64_w, i32_w]
       rfl
      refine pure_ (i := 2) (N := some 18) (v := ?_) (a' := ?_) (bz 12 6) rfl rfl (any_of HT_.out (by kernel_rfl)) (fun _ _ _ h => h) (Or.inl ⟨by rfl, ?_⟩) ?_ ?_
      rotate_left
      ·intro w'
       go_simp
       with_reducible rfl
      rotate_left
      ·simp only [Act.put, List.setIfInBounds_toArray, List.set_cons_zero, List.set_cons_succ, i64_w, i32_w]
       rfl
      refine pure_ (i := 3) (N := some 19) (v := ?_) (a' := ?_) (bz 12 14) rfl rfl (any_of HT_.out (by kernel_rfl)) (fun _ _ _ h => h) (Or.inl ⟨by rfl, ?_⟩) ?_ ?_
      rotate_left
      ·intro w'
       go_simp
       with_reducible rfl
      rotate_left
      ·simp only [Act.put, List.setIfInBounds_toArray, List.set_cons_zero, List.set_cons_succ, i64_w, i32_w]
       rfl
      refine take_ (i := 0) (N := some 16) (v := ?_) (a' := ?_) (bz 12 15) rfl rfl (take_ofW HT_.out HW_.out (by kernel_rfl)) (fun _ _ _ h => h) (Or.inl ⟨by rfl, ?_⟩) hHeld ?_ ?_
      rotate_left
      ·rintro w' ⟨s0, s1, s2, s3, s4⟩
       go_simp
       with_reducible rfl
      rotate_left
      ·simp only [Act.put, List.setIfInBounds_toArray, List.set_cons_zero, List.set_cons_succ, i64_w, i32_w]
       rfl
      refine take_ (i := 4) (N := some 20) (v := ?_) (a' := ?_) (bz 12 31) rfl rfl (take_ofW HT_.out HW_.out (by kernel_rfl)) (fun _ _ _ h => h) (Or.inl ⟨by rfl, ?_⟩) hHeld ?_ ?_
      rotate_left
      ·rintro w' ⟨s0, s1, s2, s3, s4⟩
       go_simp
       with_reducible rfl
      rotate_left
      ·simp only [Act.put, List.setIfInBounds_toArray, List.set_cons_zero, List.set_cons_succ, i64_w, i32_w]
       rfl
      refine join_ (σ := Nat) 2 (bz 12 1023) (fun s_ => [(21, .tuple #[.agg #[.bool t121, .bool t122, .bool t123, .bool t124], .bool false]), (7, .pointer (some ⟨s_, 0, none⟩)), (15, .tuple #[.agg #[.bool t121, .bool t122, .bool t123, .bool t124], .bool false]), (22, .agg #[.bool t121, .bool t122, .bool t123, .bool t124]), (23, .bool false)]) (fun s_ w' => (w'.cell? ⟨gb118, 0, none⟩ = some (.bool x119000_1) ∧ w'.cell? ⟨gb118, 1, none⟩ = some (.bool x119001_1) ∧ w'.cell? ⟨gb118, 2, none⟩ = some (.bool x119002_1) ∧ w'.cell? ⟨gb118, 3, none⟩ = some (.bool x119003_1) ∧ w'.cell? (ad120.add (x6_1).toNat) = some (.int .i64 (rd l1 x6_1))) ∧ (w'.heap[gb118]? = some (.cells #[.bool x119000_1, .bool x119001_1, .bool x119002_1, .bool x119003_1] 60 (0, 0))) ∧ (w'.heap[gb119]? = some (.cells #[.bool x120000_1, .bool x120001_1, .bool x120002_1, .bool x120003_1] 60 (0, 0))) ∧ (w'.heap[s_]? = some (.cells #[.bool false, .bool false, .bool false, .bool false] 60 (0, 0))) ∧ (w.heap.size ≤ s_) ∧ (w.heap.size ≤ s_) ∧ (gb118 ≠ s_) ∧ (s_ ≠ gb118) ∧ (gb119 ≠ s_) ∧ (s_ ≠ gb119) ∧ (Below w.heap.size w w')) ?_ ?_
      rotate_left
      ·intro hCont
       refine two_ (i := 5) (j := 9) (Ni := some 21) (Nj := some 7) (bz 12 63) (bz 12 543) rfl rfl rfl rfl (two_of HT_.out (by kernel_rfl)) (by decide) (by decide) (fun K hK => ?_) (fun K hK => ?_)
       ·skip
        refine goes_ Try.func73 (by kernel_rfl) rfl #[.agg #[.bool x119000_1, .bool x119001_1, .bool x119002_1, .bool x119003_1], .int .i64 (rd l1 x6_1)] (by rfl) rfl rfl (by (try simp only [List.map_toArray, List.map_cons, List.map_nil]); first | done | rfl | (simp only [List.length_drop, List.length_take]; rfl)) ?_
        with_reducible refine (spec_BayDo.calls x119000_1 x119001_1 x119002_1 x119003_1 (rd l1 x6_1) t121 t122 t123 t124 false _ A7.out).mono ?_
        rintro e w23 ⟨rfl, hb⟩
        refine ⟨_, rfl, ?_⟩
        have n0_ := bkB BK118 hb
        have n1_ := bkB BK119 hb
        have n2_ := Aside0.mk (below_step bw hb)
        clear BK118
        clear BK119
        clear HB
        have BK118 := n0_
        have BK119 := n1_
        have HB := n2_
        clear n0_ n1_ n2_
        (try clear hb)
        (try clear hb2)
        (try clear hk)
        (try clear hi)
        refine hK.out _ _ ⟨(blk_cell BK118.out 0).trans rfl, (blk_cell BK118.out 1).trans rfl, (blk_cell BK118.out 2).trans rfl, (blk_cell BK118.out 3).trans rfl, ((HB.out.cell (World.block_lt_of_cell? w _ hw120_0)).trans hw120_0)⟩ (fun hHeld => ?_)
        clear hK K
        refine norm_ (a' := ?_) ?_ ?_
        rotate_left
        ·show Act.put _ (some 21) _ = _
         simp only [Act.put, List.setIfInBounds_toArray, List.set_cons_zero, List.set_cons_succ, i64_w, i32_w]
         rfl
        refine pure_ (i := 6) (N := some 15) (v := ?_) (a' := ?_) (bz 12 127) rfl rfl (any_of HT_.out (by kernel_rfl)) (fun _ _ _ h => h) (Or.inl ⟨by rfl, ?_⟩) ?_ ?_
        rotate_left
        ·intro w'
         go_simp
         with_reducible rfl
        rotate_left
        ·simp only [Act.put, List.setIfInBounds_toArray, List.set_cons_zero, List.set_cons_succ, i64_w, i32_w]
         rfl
        refine pure_ (i := 7) (N := some 22) (v := ?_) (a' := ?_) (bz 12 255) rfl rfl (any_of HT_.out (by kernel_rfl)) (fun _ _ _ h => h) (Or.inl ⟨by rfl, ?_⟩) ?_ ?_
        rotate_left
        ·intro w'
         go_simp
         with_reducible rfl
        rotate_left
        ·simp only [Act.put, List.setIfInBounds_toArray, List.set_cons_zero, List.set_cons_succ, i64_w, i32_w]
         rfl
        refine pure_ (i := 8) (N := some 23) (v := ?_) (a' := ?_) (bz 12 511) rfl rfl (any_of HT_.out (by kernel_rfl)) (fun _ _ _ h => h) (Or.inl ⟨by rfl, ?_⟩) ?_ ?_
        rotate_left
        ·intro w'
         go_simp
         with_reducible rfl
        rotate_left
        ·simp only [Act.put, List.setIfInBounds_toArray, List.set_cons_zero, List.set_cons_succ, i64_w, i32_w]
         rfl
        refine one_ (i := 9) (N := some 7) (bz 12 1023) rfl rfl (one_of HT_.out (by kernel_rfl)) (by decide) (fun K hK => ?_)
        refine box_step ?hg (N := 7) ?hd (cs := #[.bool false, .bool false, .bool false, .bool false]) (t := 60) ?hr ?_; (case hd => rfl); (case hg => rfl); (case hr => first | (go_simp; done) | (go_simp; rfl))
        intro gb126 hg w24 hbox hb
        have n0_ := bkB BK118 hb
        have n1_ := bkB BK119 hb
        have n2_ := Aside0.mk (below_step bw hb)
        have n3_ := Aside0.mk (hbox)
        have n4_ := Aside0.mk ((by rw [hg]; exact (below_size bw) : w.heap.size ≤ gb126))
        have n5_ := Aside0.mk ((by rw [hg]; exact (below_size bw) : w.heap.size ≤ gb126))
        have n6_ := Aside0.mk ((by rw [hg]; exact Nat.ne_of_lt (blk_lt (g := gb118) (o := .cells #[.bool x119000_1, .bool x119001_1, .bool x119002_1, .bool x119003_1] 60 (0, 0)) (bk BK118)) : gb118 ≠ gb126))
        have n7_ := Aside0.mk ((by rw [hg]; exact Nat.ne_of_gt (blk_lt (g := gb118) (o := .cells #[.bool x119000_1, .bool x119001_1, .bool x119002_1, .bool x119003_1] 60 (0, 0)) (bk BK118)) : gb126 ≠ gb118))
        have n8_ := Aside0.mk ((by rw [hg]; exact Nat.ne_of_lt (blk_lt (g := gb119) (o := .cells #[.bool x120000_1, .bool x120001_1, .bool x120002_1, .bool x120003_1] 60 (0, 0)) (bk BK119)) : gb119 ≠ gb126))
        have n9_ := Aside0.mk ((by rw [hg]; exact Nat.ne_of_gt (blk_lt (g := gb119) (o := .cells #[.bool x120000_1, .bool x120001_1, .bool x120002_1, .bool x120003_1] 60 (0, 0)) (bk BK119)) : gb126 ≠ gb119))
        clear BK118
        clear BK119
        clear HB
        have BK118 := n0_
        have BK119 := n1_
        have HB := n2_
        have BK126 := n3_
        have GW126 := n4_
        have GE126 := n5_
        have NB118_126 := n6_
        have NB126_118 := n7_
        have NB119_126 := n8_
        have NB126_119 := n9_
        clear n0_ n1_ n2_ n3_ n4_ n5_ n6_ n7_ n8_ n9_
        clear hb hbox hg
        refine hK.out _ _ ⟨(blk_cell BK118.out 0).trans rfl, (blk_cell BK118.out 1).trans rfl, (blk_cell BK118.out 2).trans rfl, (blk_cell BK118.out 3).trans rfl, ((HB.out.cell (World.block_lt_of_cell? w _ hw120_0)).trans hw120_0)⟩ (fun hHeld => ?_)
        clear hK K
        refine norm_ (a' := ?_) ?_ ?_
        rotate_left
        ·show Act.put _ (some 7) _ = _
         simp only [Act.put, List.setIfInBounds_toArray, List.set_cons_zero, List.set_cons_succ, i64_w, i32_w]
         rfl
        exact norm_ (by simp only [putAll, Act.put, List.setIfInBounds_toArray, List.set_cons_zero, List.set_cons_succ]) (hCont (gb126) _ ⟨hHeld, (bk BK118), (bk BK119), (bk BK126), GW126.out, GE126.out, NB118_126.out, NB126_118.out, NB119_126.out, NB126_119.out, bw⟩)
       ·skip
        refine box_step ?hg (N := 7) ?hd (cs := #[.bool false, .bool false, .bool false, .bool false]) (t := 60) ?hr ?_; (case hd => rfl); (case hg => rfl); (case hr => first | (go_simp; done) | (go_simp; rfl))
        intro gb126 hg w23 hbox hb
        have n0_ := bkB BK118 hb
        have n1_ := bkB BK119 hb
        have n2_ := Aside0.mk (below_step bw hb)
        have n3_ := Aside0.mk (hbox)
        have n4_ := Aside0.mk ((by rw [hg]; exact (below_size bw) : w.heap.size ≤ gb126))
        have n5_ := Aside0.mk ((by rw [hg]; exact (below_size bw) : w.heap.size ≤ gb126))
        have n6_ := Aside0.mk ((by rw [hg]; exact Nat.ne_of_lt (blk_lt (g := gb118) (o := .cells #[.bool x119000_1, .bool x119001_1, .bool x119002_1, .bool x119003_1] 60 (0, 0)) (bk BK118)) : gb118 ≠ gb126))
        have n7_ := Aside0.mk ((by rw [hg]; exact Nat.ne_of_gt (blk_lt (g := gb118) (o := .cells #[.bool x119000_1, .bool x119001_1, .bool x119002_1, .bool x119003_1] 60 (0, 0)) (bk BK118)) : gb126 ≠ gb118))
        have n8_ := Aside0.mk ((by rw [hg]; exact Nat.ne_of_lt (blk_lt (g := gb119) (o := .cells #[.bool x120000_1, .bool x120001_1, .bool x120002_1, .bool x120003_1] 60 (0, 0)) (bk BK119)) : gb119 ≠ gb126))
        have n9_ := Aside0.mk ((by rw [hg]; exact Nat.ne_of_gt (blk_lt (g := gb119) (o := .cells #[.bool x120000_1, .bool x120001_1, .bool x120002_1, .bool x120003_1] 60 (0, 0)) (bk BK119)) : gb126 ≠ gb119))
        clear BK118
        clear BK119
        clear HB
        have BK118 := n0_
        have BK119 := n1_
        have HB := n2_
        have BK126 := n3_
        have GW126 := n4_
        have GE126 := n5_
        have NB118_126 := n6_
        have NB126_118 := n7_
        have NB119_126 := n8_
        have NB126_119 := n9_
        clear n0_ n1_ n2_ n3_ n4_ n5_ n6_ n7_ n8_ n9_
        clear hb hbox hg
        refine hK.out _ _ ⟨(blk_cell BK118.out 0).trans rfl, (blk_cell BK118.out 1).trans rfl, (blk_cell BK118.out 2).trans rfl, (blk_cell BK118.out 3).trans rfl, ((HB.out.cell (World.block_lt_of_cell? w _ hw120_0)).trans hw120_0)⟩ (fun hHeld => ?_)
        clear hK K
        refine norm_ (a' := ?_) ?_ ?_
        rotate_left
        ·show Act.put _ (some 7) _ = _
         simp only [Act.put, List.setIfInBounds_toArray, List.set_cons_zero, List.set_cons_succ, i64_w, i32_w]
         rfl
        refine one_ (i := 5) (N := some 21) (bz 12 575) rfl rfl (one_of HT_.out (by kernel_rfl)) (by decide) (fun K hK => ?_)
        refine goes_ Try.func73 (by kernel_rfl) rfl #[.agg #[.bool x119000_1, .bool x119001_1, .bool x119002_1, .bool x119003_1], .int .i64 (rd l1 x6_1)] (by rfl) rfl rfl (by (try simp only [List.map_toArray, List.map_cons, List.map_nil]); first | done | rfl | (simp only [List.length_drop, List.length_take]; rfl)) ?_
        with_reducible refine (spec_BayDo.calls x119000_1 x119001_1 x119002_1 x119003_1 (rd l1 x6_1) t121 t122 t123 t124 false _ A7.out).mono ?_
        rintro e w24 ⟨rfl, hb⟩
        refine ⟨_, rfl, ?_⟩
        have n0_ := bkB BK118 hb
        have n1_ := bkB BK119 hb
        have n2_ := bkB BK126 hb
        have n3_ := Aside0.mk (below_step bw hb)
        clear BK118
        clear BK119
        clear BK126
        clear HB
        have BK118 := n0_
        have BK119 := n1_
        have BK126 := n2_
        have HB := n3_
        clear n0_ n1_ n2_ n3_
        (try clear hb)
        (try clear hb2)
        (try clear hk)
        (try clear hi)
        refine hK.out _ _ ⟨(blk_cell BK118.out 0).trans rfl, (blk_cell BK118.out 1).trans rfl, (blk_cell BK118.out 2).trans rfl, (blk_cell BK118.out 3).trans rfl, ((HB.out.cell (World.block_lt_of_cell? w _ hw120_0)).trans hw120_0)⟩ (fun hHeld => ?_)
        clear hK K
        refine norm_ (a' := ?_) ?_ ?_
        rotate_left
        ·show Act.put _ (some 21) _ = _
         simp only [Act.put, List.setIfInBounds_toArray, List.set_cons_zero, List.set_cons_succ, i64_w, i32_w]
         rfl
        refine pure_ (i := 6) (N := some 15) (v := ?_) (a' := ?_) (bz 12 639) rfl rfl (any_of HT_.out (by kernel_rfl)) (fun _ _ _ h => h) (Or.inl ⟨by rfl, ?_⟩) ?_ ?_
        rotate_left
        ·intro w'
         go_simp
         with_reducible rfl
        rotate_left
        ·simp only [Act.put, List.setIfInBounds_toArray, List.set_cons_zero, List.set_cons_succ, i64_w, i32_w]
         rfl
        refine pure_ (i := 7) (N := some 22) (v := ?_) (a' := ?_) (bz 12 767) rfl rfl (any_of HT_.out (by kernel_rfl)) (fun _ _ _ h => h) (Or.inl ⟨by rfl, ?_⟩) ?_ ?_
        rotate_left
        ·intro w'
         go_simp
         with_reducible rfl
        rotate_left
        ·simp only [Act.put, List.setIfInBounds_toArray, List.set_cons_zero, List.set_cons_succ, i64_w, i32_w]
         rfl
        refine pure_ (i := 8) (N := some 23) (v := ?_) (a' := ?_) (bz 12 1023) rfl rfl (any_of HT_.out (by kernel_rfl)) (fun _ _ _ h => h) (Or.inl ⟨by rfl, ?_⟩) ?_ ?_
        rotate_left
        ·intro w'
         go_simp
         with_reducible rfl
        rotate_left
        ·simp only [Act.put, List.setIfInBounds_toArray, List.set_cons_zero, List.set_cons_succ, i64_w, i32_w]
         rfl
        exact norm_ (by simp only [putAll, Act.put, List.setIfInBounds_toArray, List.set_cons_zero, List.set_cons_succ]) (hCont (gb126) _ ⟨hHeld, (bk BK118), (bk BK119), (bk BK126), GW126.out, GE126.out, NB118_126.out, NB126_118.out, NB119_126.out, NB126_119.out, bw⟩)
      rintro gb126 w25 ⟨hS_, h0_, h1_, h2_, h3_, h4_, h5_, h6_, h7_, h8_, h9_⟩
      have n0_ : Aside0 (w25.heap[gb118]? = some (.cells #[.bool x119000_1, .bool x119001_1, .bool x119002_1, .bool x119003_1] 60 (0, 0))) := ⟨h0_⟩
      have n1_ : Aside0 (w25.heap[gb119]? = some (.cells #[.bool x120000_1, .bool x120001_1, .bool x120002_1, .bool x120003_1] 60 (0, 0))) := ⟨h1_⟩
      have n2_ : Aside0 (w25.heap[gb126]? = some (.cells #[.bool false, .bool false, .bool false, .bool false] 60 (0, 0))) := ⟨h2_⟩
      have n3_ : Aside0 (w.heap.size ≤ gb126) := ⟨h3_⟩
      have n4_ : Aside0 (w.heap.size ≤ gb126) := ⟨h4_⟩
      have n5_ : Aside0 (gb118 ≠ gb126) := ⟨h5_⟩
      have n6_ : Aside0 (gb126 ≠ gb118) := ⟨h6_⟩
      have n7_ : Aside0 (gb119 ≠ gb126) := ⟨h7_⟩
      have n8_ : Aside0 (gb126 ≠ gb119) := ⟨h8_⟩
      have n9_ : Aside0 (Below w.heap.size w w25) := ⟨h9_⟩
      clear BK118
      clear BK119
      clear HB
      clear h0_ h1_ h2_ h3_ h4_ h5_ h6_ h7_ h8_ h9_
      have BK118 := n0_
      have BK119 := n1_
      have BK126 := n2_
      have GW126 := n3_
      have GE126 := n4_
      have NB118_126 := n5_
      have NB126_118 := n6_
      have NB119_126 := n7_
      have NB126_119 := n8_
      have HB := n9_
      clear n0_ n1_ n2_ n3_ n4_ n5_ n6_ n7_ n8_ n9_
      have hHeld : w25.cell? ⟨gb118, 0, none⟩ = some (.bool x119000_1) ∧ w25.cell? ⟨gb118, 1, none⟩ = some (.bool x119001_1) ∧ w25.cell? ⟨gb118, 2, none⟩ = some (.bool x119002_1) ∧ w25.cell? ⟨gb118, 3, none⟩ = some (.bool x119003_1) ∧ w25.cell? (ad120.add (x6_1).toNat) = some (.int .i64 (rd l1 x6_1)) := hS_
      refine norm_ (a' := ?_) ?_ ?_
      rotate_left
      ·simp only [putAll, Act.put, List.setIfInBounds_toArray, List.set_cons_zero, List.set_cons_succ]
       rfl
      refine one_ (i := 10) (N := none) (bz 12 2047) rfl rfl (one_of HT_.out (by kernel_rfl)) (by decide) (fun K hK => ?_)
      have hs26 : w25.cell? ⟨gb126, 0, none⟩ = some (.bool false) := (blk_cell BK126.out 0).trans rfl
      have hfs26 := blk_frozen BK126.out 0
      have hns26_0 := NB118_126.out
      have hns26_1 := NB119_126.out
      have hms26_0 := NB126_118.out
      have hms26_1 := NB126_119.out
      have hs27 : w25.cell? ⟨gb126, 1, none⟩ = some (.bool false) := (blk_cell BK126.out 1).trans rfl
      have hfs27 := blk_frozen BK126.out 1
      have hns27_0 := NB118_126.out
      have hns27_1 := NB119_126.out
      have hms27_0 := NB126_118.out
      have hms27_1 := NB126_119.out
      have hs28 : w25.cell? ⟨gb126, 2, none⟩ = some (.bool false) := (blk_cell BK126.out 2).trans rfl
      have hfs28 := blk_frozen BK126.out 2
      have hns28_0 := NB118_126.out
      have hns28_1 := NB119_126.out
      have hms28_0 := NB126_118.out
      have hms28_1 := NB126_119.out
      have hs29 : w25.cell? ⟨gb126, 3, none⟩ = some (.bool false) := (blk_cell BK126.out 3).trans rfl
      have hfs29 := blk_frozen BK126.out 3
      have hns29_0 := NB118_126.out
      have hns29_1 := NB119_126.out
      have hms29_0 := NB126_118.out
      have hms29_1 := NB126_119.out
      refine skip_ (w1 := ?_) (by rfl) rfl ?_ ?_
      rotate_left
      ·go_simp
       rfl
      refine hK.out _ _ ⟨((cell_far (p := ⟨gb126, _, none⟩) NB118_126.out _).trans (((cell_far (p := ⟨gb126, _, none⟩) NB118_126.out _).trans (((cell_far (p := ⟨gb126, _, none⟩) NB118_126.out _).trans (((cell_far (p := ⟨gb126, _, none⟩) NB118_126.out _).trans (hHeld.1)))))))), ((cell_far (p := ⟨gb126, _, none⟩) NB118_126.out _).trans (((cell_far (p := ⟨gb126, _, none⟩) NB118_126.out _).trans (((cell_far (p := ⟨gb126, _, none⟩) NB118_126.out _).trans (((cell_far (p := ⟨gb126, _, none⟩) NB118_126.out _).trans (hHeld.2.1)))))))), ((cell_far (p := ⟨gb126, _, none⟩) NB118_126.out _).trans (((cell_far (p := ⟨gb126, _, none⟩) NB118_126.out _).trans (((cell_far (p := ⟨gb126, _, none⟩) NB118_126.out _).trans (((cell_far (p := ⟨gb126, _, none⟩) NB118_126.out _).trans (hHeld.2.2.1)))))))), ((cell_far (p := ⟨gb126, _, none⟩) NB118_126.out _).trans (((cell_far (p := ⟨gb126, _, none⟩) NB118_126.out _).trans (((cell_far (p := ⟨gb126, _, none⟩) NB118_126.out _).trans (((cell_far (p := ⟨gb126, _, none⟩) NB118_126.out _).trans (hHeld.2.2.2.1)))))))), ((cell_far (p := ⟨gb126, _, none⟩) (by first | exact Nat.ne_of_lt (Nat.lt_of_lt_of_le (by have := World.block_lt_of_cell? _ _ hw120_0; first | rwa [add_block] at this | exact this) GW126.out) | (rw [add_block]; exact Nat.ne_of_lt (Nat.lt_of_lt_of_le (by have := World.block_lt_of_cell? _ _ hw120_0; first | rwa [add_block] at this | exact this) GW126.out)) | (show (Addr.add _ _).block ≠ _; rw [add_block]; exact Nat.ne_of_lt (Nat.lt_of_lt_of_le (by have := World.block_lt_of_cell? _ _ hw120_0; first | rwa [add_block] at this | exact this) GW126.out)) | (dsimp only; exact Nat.ne_of_lt (Nat.lt_of_lt_of_le (by have := World.block_lt_of_cell? _ _ hw120_0; first | rwa [add_block] at this | exact this) GW126.out))) _).trans (((cell_far (p := ⟨gb126, _, none⟩) (by first | exact Nat.ne_of_lt (Nat.lt_of_lt_of_le (by have := World.block_lt_of_cell? _ _ hw120_0; first | rwa [add_block] at this | exact this) GW126.out) | (rw [add_block]; exact Nat.ne_of_lt (Nat.lt_of_lt_of_le (by have := World.block_lt_of_cell? _ _ hw120_0; first | rwa [add_block] at this | exact this) GW126.out)) | (show (Addr.add _ _).block ≠ _; rw [add_block]; exact Nat.ne_of_lt (Nat.lt_of_lt_of_le (by have := World.block_lt_of_cell? _ _ hw120_0; first | rwa [add_block] at this | exact this) GW126.out)) | (dsimp only; exact Nat.ne_of_lt (Nat.lt_of_lt_of_le (by have := World.block_lt_of_cell? _ _ hw120_0; first | rwa [add_block] at this | exact this) GW126.out))) _).trans (((cell_far (p := ⟨gb126, _, none⟩) (by first | exact Nat.ne_of_lt (Nat.lt_of_lt_of_le (by have := World.block_lt_of_cell? _ _ hw120_0; first | rwa [add_block] at this | exact this) GW126.out) | (rw [add_block]; exact Nat.ne_of_lt (Nat.lt_of_lt_of_le (by have := World.block_lt_of_cell? _ _ hw120_0; first | rwa [add_block] at this | exact this) GW126.out)) | (show (Addr.add _ _).block ≠ _; rw [add_block]; exact Nat.ne_of_lt (Nat.lt_of_lt_of_le (by have := World.block_lt_of_cell? _ _ hw120_0; first | rwa [add_block] at this | exact this) GW126.out)) | (dsimp only; exact Nat.ne_of_lt (Nat.lt_of_lt_of_le (by have := World.block_lt_of_cell? _ _ hw120_0; first | rwa [add_block] at this | exact this) GW126.out))) _).trans (((cell_far (p := ⟨gb126, _, none⟩) (by first | exact Nat.ne_of_lt (Nat.lt_of_lt_of_le (by have := World.block_lt_of_cell? _ _ hw120_0; first | rwa [add_block] at this | exact this) GW126.out) | (rw [add_block]; exact Nat.ne_of_lt (Nat.lt_of_lt_of_le (by have := World.block_lt_of_cell? _ _ hw120_0; first | rwa [add_block] at this | exact this) GW126.out)) | (show (Addr.add _ _).block ≠ _; rw [add_block]; exact Nat.ne_of_lt (Nat.lt_of_lt_of_le (by have := World.block_lt_of_cell? _ _ hw120_0; first | rwa [add_block] at this | exact this) GW126.out)) | (dsimp only; exact Nat.ne_of_lt (Nat.lt_of_lt_of_le (by have := World.block_lt_of_cell? _ _ hw120_0; first | rwa [add_block] at this | exact this) GW126.out))) _).trans (hHeld.2.2.2.2))))))))⟩ (fun hHeld => ?_)
      clear hK K
      refine pure_ (i := 11) (N := some 8) (v := ?_) (a' := ?_) (bz 12 4095) rfl rfl (any_of HT_.out (by kernel_rfl)) (fun _ _ _ h => h) (Or.inl ⟨by rfl, ?_⟩) ?_ ?_
      rotate_left
      ·intro w'
       go_simp
       with_reducible rfl
      rotate_left
      ·simp only [Act.put, List.setIfInBounds_toArray, List.set_cons_zero, List.set_cons_succ, i64_w, i32_w]
       rfl
      refine done_ (done_of HT_.out (by kernel_rfl)) ?_
      have hnb30 := NB118_119.out
      have hnc30 := NB119_118.out
      have hnb31 := NB118_126.out
      have hnc31 := NB126_118.out
      have hcz32_0 : w25.cell? ⟨gb118, 0, none⟩ = some (.bool x119000_1) := (blk_cell BK118.out 0).trans rfl
      have hcz32_1 : w25.cell? ⟨gb118, 1, none⟩ = some (.bool x119001_1) := (blk_cell BK118.out 1).trans rfl
      have hcz32_2 : w25.cell? ⟨gb118, 2, none⟩ = some (.bool x119002_1) := (blk_cell BK118.out 2).trans rfl
      have hcz32_3 : w25.cell? ⟨gb118, 3, none⟩ = some (.bool x119003_1) := (blk_cell BK118.out 3).trans rfl
      have hfz32_0 := blk_frozen BK118.out 0
      have hfz32_1 := blk_frozen BK118.out 1
      have hfz32_2 := blk_frozen BK118.out 2
      have hfz32_3 := blk_frozen BK118.out 3
      have hnb33 := NB119_126.out
      have hnc33 := NB126_119.out
      have hcz34_0 : w25.cell? ⟨gb119, 0, none⟩ = some (.bool x120000_1) := (blk_cell BK119.out 0).trans rfl
      have hcz34_1 : w25.cell? ⟨gb119, 1, none⟩ = some (.bool x120001_1) := (blk_cell BK119.out 1).trans rfl
      have hcz34_2 : w25.cell? ⟨gb119, 2, none⟩ = some (.bool x120002_1) := (blk_cell BK119.out 2).trans rfl
      have hcz34_3 : w25.cell? ⟨gb119, 3, none⟩ = some (.bool x120003_1) := (blk_cell BK119.out 3).trans rfl
      have hfz34_0 := blk_frozen BK119.out 0
      have hfz34_1 := blk_frozen BK119.out 1
      have hfz34_2 := blk_frozen BK119.out 2
      have hfz34_3 := blk_frozen BK119.out 3
      try go_wp2
      refine bodyPost_ret (results_ct rfl _ _ gb119 60 #[.bool x119000_1, .bool x119001_1, .bool x119002_1, .bool x119003_1] (0, 0) _ rfl (by (with_reducible repeat (first | refine blk_drewN ?_ _ | refine blk_drew ?_ | refine blk_alloc ?_ _)); refine blk_put (cs := #[.bool x119000_1, .bool x119001_1, .bool x119002_1, .bool x120003_1]) ?_ 3 _ rfl; (with_reducible repeat (first | refine blk_drewN ?_ _ | refine blk_drew ?_ | refine blk_alloc ?_ _)); refine blk_put (cs := #[.bool x119000_1, .bool x119001_1, .bool x120002_1, .bool x120003_1]) ?_ 2 _ rfl; (with_reducible repeat (first | refine blk_drewN ?_ _ | refine blk_drew ?_ | refine blk_alloc ?_ _)); refine blk_put (cs := #[.bool x119000_1, .bool x120001_1, .bool x120002_1, .bool x120003_1]) ?_ 1 _ rfl; (with_reducible repeat (first | refine blk_drewN ?_ _ | refine blk_drew ?_ | refine blk_alloc ?_ _)); refine blk_put (cs := #[.bool x120000_1, .bool x120001_1, .bool x120002_1, .bool x120003_1]) ?_ 0 _ rfl; (with_reducible repeat (first | refine blk_drewN ?_ _ | refine blk_drew ?_ | refine blk_alloc ?_ _)); refine blk_far ?_ NB119_126.out _; (with_reducible repeat (first | refine blk_drewN ?_ _ | refine blk_drew ?_ | refine blk_alloc ?_ _)); refine blk_far ?_ NB119_126.out _; (with_reducible repeat (first | refine blk_drewN ?_ _ | refine blk_drew ?_ | refine blk_alloc ?_ _)); refine blk_far ?_ NB119_126.out _; (with_reducible repeat (first | refine blk_drewN ?_ _ | refine blk_drew ?_ | refine blk_alloc ?_ _)); refine blk_far ?_ NB119_126.out _; (with_reducible repeat (first | refine blk_drewN ?_ _ | refine blk_drew ?_ | refine blk_alloc ?_ _)); exact BK119.out) Try.underlying60 rfl (by kernel_rfl)) rfl ?_
      exact ⟨by first | rfl | (simp [errW_none, errW_some] <;> rfl) | (simp [*, errW_none, errW_some] <;> rfl), bw⟩
    ·rw [if_neg c6] at H
     exact absurd H (by simp)
   ·rw [if_neg c5] at H
    have c5b0 : decide (x6_1 < (l1.length : Int)) = false := decide_eq_false c5
    clear c5
    simp only [Option.some.injEq, Prod.mk.injEq] at H
    obtain ⟨rfl, rfl, rfl, rfl, rfl⟩ := H
    have hnb35 := NB118_119.out
    have hnc35 := NB119_118.out
    have hcz36_0 : wr.cell? ⟨gb118, 0, none⟩ = some (.bool x119000_1) := (blk_cell BK118.out 0).trans rfl
    have hcz36_1 : wr.cell? ⟨gb118, 1, none⟩ = some (.bool x119001_1) := (blk_cell BK118.out 1).trans rfl
    have hcz36_2 : wr.cell? ⟨gb118, 2, none⟩ = some (.bool x119002_1) := (blk_cell BK118.out 2).trans rfl
    have hcz36_3 : wr.cell? ⟨gb118, 3, none⟩ = some (.bool x119003_1) := (blk_cell BK118.out 3).trans rfl
    have hfz36_0 := blk_frozen BK118.out 0
    have hfz36_1 := blk_frozen BK118.out 1
    have hfz36_2 := blk_frozen BK118.out 2
    have hfz36_3 := blk_frozen BK118.out 3
    have hcz37_0 : wr.cell? ⟨gb119, 0, none⟩ = some (.bool x120000_1) := (blk_cell BK119.out 0).trans rfl
    have hcz37_1 : wr.cell? ⟨gb119, 1, none⟩ = some (.bool x120001_1) := (blk_cell BK119.out 1).trans rfl
    have hcz37_2 : wr.cell? ⟨gb119, 2, none⟩ = some (.bool x120002_1) := (blk_cell BK119.out 2).trans rfl
    have hcz37_3 : wr.cell? ⟨gb119, 3, none⟩ = some (.bool x120003_1) := (blk_cell BK119.out 3).trans rfl
    have hfz37_0 := blk_frozen BK119.out 0
    have hfz37_1 := blk_frozen BK119.out 1
    have hfz37_2 := blk_frozen BK119.out 2
    have hfz37_3 := blk_frozen BK119.out 3
    go_wp2
    refine bodyPost_ret (results_ct rfl _ _ gb119 60 #[.bool x119000_1, .bool x119001_1, .bool x119002_1, .bool x119003_1] (0, 0) _ rfl (by (with_reducible repeat (first | refine blk_drewN ?_ _ | refine blk_drew ?_ | refine blk_alloc ?_ _)); refine blk_put (cs := #[.bool x119000_1, .bool x119001_1, .bool x119002_1, .bool x120003_1]) ?_ 3 _ rfl; (with_reducible repeat (first | refine blk_drewN ?_ _ | refine blk_drew ?_ | refine blk_alloc ?_ _)); refine blk_put (cs := #[.bool x119000_1, .bool x119001_1, .bool x120002_1, .bool x120003_1]) ?_ 2 _ rfl; (with_reducible repeat (first | refine blk_drewN ?_ _ | refine blk_drew ?_ | refine blk_alloc ?_ _)); refine blk_put (cs := #[.bool x119000_1, .bool x120001_1, .bool x120002_1, .bool x120003_1]) ?_ 1 _ rfl; (with_reducible repeat (first | refine blk_drewN ?_ _ | refine blk_drew ?_ | refine blk_alloc ?_ _)); refine blk_put (cs := #[.bool x120000_1, .bool x120001_1, .bool x120002_1, .bool x120003_1]) ?_ 0 _ rfl; (with_reducible repeat (first | refine blk_drewN ?_ _ | refine blk_drew ?_ | refine blk_alloc ?_ _)); exact BK119.out) Try.underlying60 rfl (by kernel_rfl)) rfl ?_
    exact ⟨by first | rfl | (simp [errW_none, errW_some] <;> rfl) | (simp [*, errW_none, errW_some] <;> rfl), bw⟩

/-! ### laws_toBay: function 35 -/
def laws_toBay.f (a0_0 : Bool) (a0_1 : Bool) (a0_2 : Bool) (a0_3 : Bool) : Option (Bool × Bool × Bool × Bool) := some (a0_0, a0_1, a0_2, a0_3)
set_option maxHeartbeats 8000000 in
set_option maxRecDepth 100000 in
theorem laws_toBay.calls (a0_0 : Bool) (a0_1 : Bool) (a0_2 : Bool) (a0_3 : Bool) (r1 : Bool) (r2 : Bool) (r3 : Bool) (r4 : Bool) (w : World) (h : laws_toBay.f a0_0 a0_1 a0_2 a0_3 = some (r1, r2, r3, r4)) :
  Calls Try.prog 35 #[.agg #[.bool a0_0, .bool a0_1, .bool a0_2, .bool a0_3]] w fun e w' => e = .returned (.agg #[.bool r1, .bool r2, .bool r3, .bool r4]) ∧ Below w.heap.size w w' := by
 have hu59 := Try.underlying59
 have hu60 := Try.underlying60
 have HB := Aside0.mk (Below.refl w.heap.size w)
 have H : (some (a0_0, a0_1, a0_2, a0_3)) = some (r1, r2, r3, r4) := h
 clear h
 simp only [Option.some.injEq, Prod.mk.injEq] at H
 obtain ⟨rfl, rfl, rfl, rfl⟩ := H
 go_enter Try.func35, Try.ntmps35
 go_wp2_with (first | ((with_reducible refine gate_dst (N := 1) rfl ?_); refine box_event ?hg (N := 1) ?hd (cs := #[.bool a0_0, .bool a0_1, .bool a0_2, .bool a0_3]) (t := 59) ?hr ?_; (case hd => rfl); (case hg => rfl); (case hr => first | (go_simp; done) | (go_simp; rfl)); intro gb127 hg w2 hbox hb; have n0_ := Aside0.mk (below_step bw hb); have n1_ := Aside0.mk (hbox); have n2_ := Aside0.mk ((by rw [hg]; exact (below_size bw) : w.heap.size ≤ gb127)); have n3_ := Aside0.mk ((by rw [hg]; exact (below_size bw) : w.heap.size ≤ gb127)); clear HB; have HB := n0_; have BK127 := n1_; have GW127 := n2_; have GE127 := n3_; clear n0_ n1_ n2_ n3_; clear hb hbox hg) | ((with_reducible refine gate_dst (N := 2) rfl ?_); refine box_event ?hg (N := 2) ?hd (cs := #[.bool false, .bool false, .bool false, .bool false]) (t := 60) ?hr ?_; (case hd => rfl); (case hg => rfl); (case hr => first | (go_simp; done) | (go_simp; rfl)); intro gb128 hg w3 hbox hb; have n0_ := bkB BK127 hb; have n1_ := Aside0.mk (below_step bw hb); have n2_ := Aside0.mk (hbox); have n3_ := Aside0.mk ((by rw [hg]; exact (below_size bw) : w.heap.size ≤ gb128)); have n4_ := Aside0.mk ((by rw [hg]; exact (below_size bw) : w.heap.size ≤ gb128)); have n5_ := Aside0.mk ((by rw [hg]; exact Nat.ne_of_lt (blk_lt (g := gb127) (o := .cells #[.bool a0_0, .bool a0_1, .bool a0_2, .bool a0_3] 59 (0, 0)) (bk BK127)) : gb127 ≠ gb128)); have n6_ := Aside0.mk ((by rw [hg]; exact Nat.ne_of_gt (blk_lt (g := gb127) (o := .cells #[.bool a0_0, .bool a0_1, .bool a0_2, .bool a0_3] 59 (0, 0)) (bk BK127)) : gb128 ≠ gb127)); clear BK127 HB; have BK127 := n0_; have HB := n1_; have BK128 := n2_; have GW128 := n3_; have GE128 := n4_; have NB127_128 := n5_; have NB128_127 := n6_; clear n0_ n1_ n2_ n3_ n4_ n5_ n6_; clear hb hbox hg) | ((with_reducible refine gate_dst (N := 3) rfl ?_); refine box_event ?hg (N := 3) ?hd (cs := #[.bool false, .bool false, .bool false, .bool false]) (t := 60) ?hr ?_; (case hd => rfl); (case hg => rfl); (case hr => first | (go_simp; done) | (go_simp; rfl)); intro gb129 hg w4 hbox hb; have n0_ := bkB BK127 hb; have n1_ := bkB BK128 hb; have n2_ := Aside0.mk (below_step bw hb); have n3_ := Aside0.mk (hbox); have n4_ := Aside0.mk ((by rw [hg]; exact (below_size bw) : w.heap.size ≤ gb129)); have n5_ := Aside0.mk ((by rw [hg]; exact (below_size bw) : w.heap.size ≤ gb129)); have n6_ := Aside0.mk ((by rw [hg]; exact Nat.ne_of_lt (blk_lt (g := gb127) (o := .cells #[.bool a0_0, .bool a0_1, .bool a0_2, .bool a0_3] 59 (0, 0)) (bk BK127)) : gb127 ≠ gb129)); have n7_ := Aside0.mk ((by rw [hg]; exact Nat.ne_of_gt (blk_lt (g := gb127) (o := .cells #[.bool a0_0, .bool a0_1, .bool a0_2, .bool a0_3] 59 (0, 0)) (bk BK127)) : gb129 ≠ gb127)); have n8_ := Aside0.mk ((by rw [hg]; exact Nat.ne_of_lt (blk_lt (g := gb128) (o := .cells #[.bool false, .bool false, .bool false, .bool false] 60 (0, 0)) (bk BK128)) : gb128 ≠ gb129)); have n9_ := Aside0.mk ((by rw [hg]; exact Nat.ne_of_gt (blk_lt (g := gb128) (o := .cells #[.bool false, .bool false, .bool false, .bool false] 60 (0, 0)) (bk BK128)) : gb129 ≠ gb128)); clear BK127 BK128 HB; have BK127 := n0_; have BK128 := n1_; have HB := n2_; have BK129 := n3_; have GW129 := n4_; have GE129 := n5_; have NB127_129 := n6_; have NB129_127 := n7_; have NB128_129 := n8_; have NB129_128 := n9_; clear n0_ n1_ n2_ n3_ n4_ n5_ n6_ n7_ n8_ n9_; clear hb hbox hg; have hnb5 := NB127_128.out; have hnc5 := NB128_127.out; have hnb6 := NB127_129.out; have hnc6 := NB129_127.out; have hcz7_0 : w4.cell? ⟨gb127, 0, none⟩ = some (.bool a0_0) := (blk_cell BK127.out 0).trans rfl; have hcz7_1 : w4.cell? ⟨gb127, 1, none⟩ = some (.bool a0_1) := (blk_cell BK127.out 1).trans rfl; have hcz7_2 : w4.cell? ⟨gb127, 2, none⟩ = some (.bool a0_2) := (blk_cell BK127.out 2).trans rfl; have hcz7_3 : w4.cell? ⟨gb127, 3, none⟩ = some (.bool a0_3) := (blk_cell BK127.out 3).trans rfl; have hfz7_0 := blk_frozen BK127.out 0; have hfz7_1 := blk_frozen BK127.out 1; have hfz7_2 := blk_frozen BK127.out 2; have hfz7_3 := blk_frozen BK127.out 3; have hnb8 := NB129_128.out; have hnc8 := NB128_129.out; have hcz9_0 : w4.cell? ⟨gb129, 0, none⟩ = some (.bool false) := (blk_cell BK129.out 0).trans rfl; have hcz9_1 : w4.cell? ⟨gb129, 1, none⟩ = some (.bool false) := (blk_cell BK129.out 1).trans rfl; have hcz9_2 : w4.cell? ⟨gb129, 2, none⟩ = some (.bool false) := (blk_cell BK129.out 2).trans rfl; have hcz9_3 : w4.cell? ⟨gb129, 3, none⟩ = some (.bool false) := (blk_cell BK129.out 3).trans rfl; have hfz9_0 := blk_frozen BK129.out 0; have hfz9_1 := blk_frozen BK129.out 1; have hfz9_2 := blk_frozen BK129.out 2; have hfz9_3 := blk_frozen BK129.out 3; have hcz10_0 : w4.cell? ⟨gb128, 0, none⟩ = some (.bool false) := (blk_cell BK128.out 0).trans rfl; have hcz10_1 : w4.cell? ⟨gb128, 1, none⟩ = some (.bool false) := (blk_cell BK128.out 1).trans rfl; have hcz10_2 : w4.cell? ⟨gb128, 2, none⟩ = some (.bool false) := (blk_cell BK128.out 2).trans rfl; have hcz10_3 : w4.cell? ⟨gb128, 3, none⟩ = some (.bool false) := (blk_cell BK128.out 3).trans rfl; have hfz10_0 := blk_frozen BK128.out 0; have hfz10_1 := blk_frozen BK128.out 1; have hfz10_2 := blk_frozen BK128.out 2; have hfz10_3 := blk_frozen BK128.out 3))
 refine bodyPost_ret (results_cell_row rfl _ _ gb128 60 #[.bool a0_0, .bool a0_1, .bool a0_2, .bool a0_3] (0, 0) _ rfl (by (with_reducible repeat (first | refine blk_drewN ?_ _ | refine blk_drew ?_ | refine blk_alloc ?_ _)); refine blk_put (cs := #[.bool a0_0, .bool a0_1, .bool a0_2, .bool false]) ?_ 3 _ rfl; (with_reducible repeat (first | refine blk_drewN ?_ _ | refine blk_drew ?_ | refine blk_alloc ?_ _)); refine blk_put (cs := #[.bool a0_0, .bool a0_1, .bool false, .bool false]) ?_ 2 _ rfl; (with_reducible repeat (first | refine blk_drewN ?_ _ | refine blk_drew ?_ | refine blk_alloc ?_ _)); refine blk_put (cs := #[.bool a0_0, .bool false, .bool false, .bool false]) ?_ 1 _ rfl; (with_reducible repeat (first | refine blk_drewN ?_ _ | refine blk_drew ?_ | refine blk_alloc ?_ _)); refine blk_put (cs := #[.bool false, .bool false, .bool false, .bool false]) ?_ 0 _ rfl; (with_reducible repeat (first | refine blk_drewN ?_ _ | refine blk_drew ?_ | refine blk_alloc ?_ _)); refine blk_far ?_ NB128_129.out _; (with_reducible repeat (first | refine blk_drewN ?_ _ | refine blk_drew ?_ | refine blk_alloc ?_ _)); refine blk_far ?_ NB128_129.out _; (with_reducible repeat (first | refine blk_drewN ?_ _ | refine blk_drew ?_ | refine blk_alloc ?_ _)); refine blk_far ?_ NB128_129.out _; (with_reducible repeat (first | refine blk_drewN ?_ _ | refine blk_drew ?_ | refine blk_alloc ?_ _)); refine blk_far ?_ NB128_129.out _; (with_reducible repeat (first | refine blk_drewN ?_ _ | refine blk_drew ?_ | refine blk_alloc ?_ _)); exact BK128.out) Try.underlying60 rfl (by kernel_rfl)) rfl ?_
 exact ⟨by first | rfl | (simp [errW_none, errW_some] <;> rfl) | (simp [*, errW_none, errW_some] <;> rfl), bw⟩

/-! ### impl_Bay_number: function 88 -/
def impl_Bay_number.bn (b : Bool) (n : Int) : Int := if b = true then n else 0
def impl_Bay_number.f (a0_0 : Bool) (a0_1 : Bool) (a0_2 : Bool) (a0_3 : Bool) : Option (Int) := some (impl_Bay_number.bn a0_0 1 + impl_Bay_number.bn a0_1 2 + impl_Bay_number.bn a0_2 4 + impl_Bay_number.bn a0_3 8)
def impl_Bay_number.pt (a b c d : Bool) (k : Nat) : Int := (if 0 < k then impl_Bay_number.bn a 1 else 0) + (if 1 < k then impl_Bay_number.bn b 2 else 0) + (if 2 < k then impl_Bay_number.bn c 4 else 0) + (if 3 < k then impl_Bay_number.bn d 8 else 0)
set_option maxHeartbeats 2000000 in
set_option maxRecDepth 100000 in
theorem impl_Bay_number.calls (a0_0 : Bool) (a0_1 : Bool) (a0_2 : Bool) (a0_3 : Bool) (r : Int) (w : World) (h : impl_Bay_number.f a0_0 a0_1 a0_2 a0_3 = some r) :
  Calls Try.prog 88 #[.agg #[.bool a0_0, .bool a0_1, .bool a0_2, .bool a0_3]] w fun e w' => e = .returned (.int .i64 r) ∧ Below w.heap.size w w' := by
 have i0 : ∀ w, (Instr.index 149 (.agg #[.bool a0_0, .bool a0_1, .bool a0_2, .bool a0_3]) (.int .i64 0)).run Try.prog w = .ok (.bool a0_0) w := fun _ => by kernel_rfl
 have i1 : ∀ w, (Instr.index 149 (.agg #[.bool a0_0, .bool a0_1, .bool a0_2, .bool a0_3]) (.int .i64 1)).run Try.prog w = .ok (.bool a0_1) w := fun _ => by kernel_rfl
 have i2 : ∀ w, (Instr.index 149 (.agg #[.bool a0_0, .bool a0_1, .bool a0_2, .bool a0_3]) (.int .i64 2)).run Try.prog w = .ok (.bool a0_2) w := fun _ => by kernel_rfl
 have i3 : ∀ w, (Instr.index 149 (.agg #[.bool a0_0, .bool a0_1, .bool a0_2, .bool a0_3]) (.int .i64 3)).run Try.prog w = .ok (.bool a0_3) w := fun _ => by kernel_rfl
 obtain rfl := Option.some.inj h
 go_enter Try.func88, Try.ntmps88
 go_wp2
 go_loop [3, 15] (fun n i => ∃ k : Nat, k ≤ 4 ∧ i = .int .i64 k ∧ n = .int .i64 (impl_Bay_number.pt a0_0 a0_1 a0_2 a0_3 k)) (fun _ i => 4 - (intOf i).toNat)
 case atStart => exact ⟨0, by omega, rfl, rfl⟩
 case round =>
  obtain ⟨k, hk, rfl, rfl⟩ := hrel
  have hk4 : k = 0 ∨ k = 1 ∨ k = 2 ∨ k = 3 ∨ k = 4 := by omega
  rcases hk4 with rfl | rfl | rfl | rfl | rfl
  ·cases a0_0 <;>
   ·go_wp2
    go_round
    case rel => exact ⟨1, by omega, rfl, by cases a0_1 <;> cases a0_2 <;> cases a0_3 <;> rfl⟩
    case measure => simp [intOf]
  ·cases a0_1 <;>
   ·go_wp2
    go_round
    case rel => exact ⟨2, by omega, rfl, by cases a0_0 <;> cases a0_2 <;> cases a0_3 <;> rfl⟩
    case measure => simp [intOf]
  ·cases a0_2 <;>
   ·go_wp2
    go_round
    case rel => exact ⟨3, by omega, rfl, by cases a0_0 <;> cases a0_1 <;> cases a0_3 <;> rfl⟩
    case measure => simp [intOf]
  ·cases a0_3 <;>
   ·go_wp2
    go_round
    case rel => exact ⟨4, by omega, rfl, by cases a0_0 <;> cases a0_1 <;> cases a0_2 <;> rfl⟩
    case measure => simp [intOf]
  ·go_wp2
   go_ret
   exact ⟨by cases a0_0 <;> cases a0_1 <;> cases a0_2 <;> cases a0_3 <;> rfl, (Below.refl _ _).alloc (Nat.le_refl _) _⟩

end Go.Proofs.Ytgoiihfojhpcmaa.G
