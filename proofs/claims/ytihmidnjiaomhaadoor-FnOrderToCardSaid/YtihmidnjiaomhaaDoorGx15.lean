-- Printed by wip/gen.py of this session's repo, over the kit's print.py. Not trusted: Lean checks it.
import Derived.Test.YtihmidnjiaomhaaDoorSq
import Derived.Test.YtihmidnjiaomhaaDoorGx0
import Derived.Test.YtihmidnjiaomhaaDoorGx13
import Derived.Test.YtihmidnjiaomhaaDoorGx14
namespace Go.Proofs.YtihmidnjiaomhaaDoor.G
open Go.RowKit Go.Proofs.YtihmidnjiaomhaaDoorW.PrintWords Go.Proofs.YtihmidnjiaomhaaDoorW.PrintLast Go.Proofs.YtihmidnjiaomhaaDoorW.PrintMore Go.Proofs.YtihmidnjiaomhaaDoor.Sq
attribute [local go_sem] max2_int min2_int max_two min_two max_three min_three max_four min_four   -- for this text's walks alone
set_option linter.unusedVariables false
set_option linter.unusedSimpArgs false

/-! ### spec_l20State: function 52 -/
def spec_l20State.l0 : Nat → Int → List Bool → Int → Int → List Int → Int → Int → List (S42) → Option (List Bool × Int)
 | 0, _, _, _, _, _, _, _, _ => none
 | k + 1, x2, x7, x8, x9, x1000, x1001, x300000, x300001 => if x9 < (x300001.length : Int) then ((spec_l20Rd_pick.f k x1000 x1001 4).bind fun bt305 => (if x7.length < 140737488355328 then (spec_l20State.l0 k x2 (x7 ++ [decide (bt305.1 < x8)]) x8 (wrap64 (x9 + 1)) x1000 bt305.2 x300000 x300001) else (none))) else ((spec_l20Rd_odd.f k x1000 x1001 x2).bind fun bt310 => (if bt310.1 = true then (if x7.length < 140737488355328 then (some ((x7 ++ [true]), bt310.2)) else (none)) else (some (x7, bt310.2))))
def spec_l20State.f (k : Nat) (s0_0 : List Int) (s0_1 : Int) (a1_0 : Int) (l1_1 : List (S42)) (a2 : Int) : Option (List Bool × Int) := (spec_l20Rd_pick.f k s0_0 s0_1 4).bind fun bt303 => (spec_l20State.l0 k a2 (([] : List Bool)) (wrap64 (1 + bt303.1)) 0 s0_0 bt303.2 a1_0 l1_1)
theorem spec_l20State.mono_l : ∀ k, (∀ y0 y1 y2 y3 y4 y5 y6 y7, LeO (spec_l20State.l0 k y0 y1 y2 y3 y4 y5 y6 y7) (spec_l20State.l0 (k + 1) y0 y1 y2 y3 y4 y5 y6 y7))
 | 0 => fun _ _ _ _ _ _ _ _ r h => by simp [spec_l20State.l0] at h
 | k + 1 => by
  have ih0 := spec_l20State.mono_l k
  ·intro y0 y1 y2 y3 y4 y5 y6 y7
   unfold spec_l20State.l0
   repeat' first
   | (with_reducible exact ih0 _ _ _ _ _ _ _ _)
   | (with_reducible exact spec_l20Rd_odd.mono _ _ _ _)
   | (with_reducible exact spec_l20Rd_pick.mono _ _ _ _)
   | (with_reducible exact LeO.refl _)
   | (with_reducible exact LeO.none _)
   | (with_reducible refine LeO.ite ?_ ?_)
   | (with_reducible refine LeO.bind ?_ (fun _ => ?_))
   | exact ih0 _ _ _ _ _ _ _ _
   | exact spec_l20Rd_odd.mono _ _ _ _
   | exact spec_l20Rd_pick.mono _ _ _ _
   | exact LeO.none _
   | refine LeO.ite ?_ ?_
   | refine LeO.bind ?_ (fun _ => ?_)
theorem spec_l20State.mono : ∀ a0 a1 a2 a3 a4 k, LeO (spec_l20State.f k a0 a1 a2 a3 a4) (spec_l20State.f (k + 1) a0 a1 a2 a3 a4) := by
 intro a0 a1 a2 a3 a4 k
 have ih0 := spec_l20State.mono_l k
 unfold spec_l20State.f
 repeat' first
   | (with_reducible exact ih0 _ _ _ _ _ _ _ _)
   | (with_reducible exact spec_l20Rd_odd.mono _ _ _ _)
   | (with_reducible exact spec_l20Rd_pick.mono _ _ _ _)
   | (with_reducible exact LeO.refl _)
   | (with_reducible exact LeO.none _)
   | (with_reducible refine LeO.ite ?_ ?_)
   | (with_reducible refine LeO.bind ?_ (fun _ => ?_))
   | exact ih0 _ _ _ _ _ _ _ _
   | exact spec_l20Rd_odd.mono _ _ _ _
   | exact spec_l20Rd_pick.mono _ _ _ _
   | exact LeO.none _
   | refine LeO.ite ?_ ?_
   | refine LeO.bind ?_ (fun _ => ?_)
set_option maxHeartbeats 8000000 in
set_option maxRecDepth 100000 in
theorem spec_l20State.calls (k : Nat) (g : Nat) (s0_0 : List Int) (s0_1 : Int) (a1_0 : Int) (A1_1 : Option Addr) (c1_1 : Nat) (l1_1 : List (S42)) (a2 : Int) (r1 : List Bool) (r2 : Int) (w0 w : World) (hI : IsS127 w0 w g s0_0 s0_1) (hB : Below w0.heap.size w0 w) (hr1_1 : ∀ W_, KeepBut w W_ g none → Kd.C k42 W_ A1_1 l1_1.length l1_1) (hc1_1 : l1_1.length ≤ c1_1) (h : spec_l20State.f k s0_0 s0_1 a1_0 l1_1 a2 = some (r1, r2)) :
  Calls Tryd.prog 52 #[.pointer (some ⟨g, 0, none⟩), .agg #[.int .i64 a1_0, .slice A1_1 l1_1.length c1_1], .int .i64 a2] w fun e w' => ∃ v0_ : Value, e = .returned (v0_) ∧ Kd.R Kd.bool 4 w' w.heap.size (fun _ => True) v0_ r1 ∧ IsS127 w0 w' g s0_0 r2 ∧ Below w0.heap.size w0 w' ∧ KeepBut w w' g none := by
 have hu40 := Tryd.underlying40
 have HR1_1 := Aside0.mk hr1_1
 have HC1_1 := Aside0.mk hc1_1
 clear hr1_1 hc1_1
 have HI0 := Aside0.mk hI
 have HK := Aside0.mk (KeepBut.refl w g none)
 have HL := Aside0.mk hB.size
 clear hI
 have HW0 := Aside0.mk hB.size
 have HB := Aside0.mk hB
 clear hB
 have H : ((spec_l20Rd_pick.f k s0_0 s0_1 4).bind fun bt303 => (spec_l20State.l0 k a2 (([] : List Bool)) (wrap64 (1 + bt303.1)) 0 s0_0 bt303.2 a1_0 l1_1)) = some (r1, r2) := h
 clear h
 obtain ⟨y300, hy300⟩ : ∃ y_ : List Bool, y_ = (([] : List Bool)) := ⟨_, rfl⟩
 replace H : ((spec_l20Rd_pick.f k s0_0 s0_1 4).bind fun bt303 => (spec_l20State.l0 k a2 y300 (wrap64 (1 + bt303.1)) 0 s0_0 bt303.2 a1_0 l1_1)) = some (r1, r2) := by first | (rw [hy300]; with_reducible exact H) | (have H2_ := (Option.bind_some _ _).symm.trans H; rw [hy300]; with_reducible exact H2_) | (have H2_ := (Option.bind_some _ _).symm.trans H; with_reducible exact H2_) | with_reducible exact H | (rw [hy300]; exact H) | exact H
 have Ny300 := Aside0.mk hy300
 clear hy300
 replace H := Option.bind_eq_some_iff.mp H
 obtain ⟨⟨t303, t304⟩, A40, H⟩ := H
 replace H : (spec_l20State.l0 k a2 y300 (wrap64 (1 + t303)) 0 s0_0 t304 a1_0 l1_1) = some (r1, r2) := H
 have A4 := Aside0.mk A40
 clear A40
 have H' := Aside0.mk H
 clear H
 go_enter Tryd.func52, Tryd.ntmps52
 have TK0_ := Aside0.mk trivial; have TK1_ := Aside0.mk trivial; have TK2_ := Aside0.mk trivial
 go_wp2_with (first | (clear TK0_; (with_reducible refine gate_dst (N := 4) rfl ?_); refine box_event ?hg (N := 4) ?hd (cs := #[.int .i64 a1_0, .slice A1_1 l1_1.length c1_1]) (t := 40) ?hr ?_; (case hd => rfl); (case hg => rfl); (case hr => first | (go_simp; done) | (go_simp; rfl)); intro gb299 hg w5 hbox hb; have n0_ := Aside0.mk (IsS127.below (by repeat (first | (with_reducible first | exact HI0.out | apply IsS127.alloc | apply IsS127.drewN | apply IsS127.drew | apply IsS127.set_1) | exact HI0.out)) hb); have n1_ := Aside0.mk (KeepBut.trans (by repeat (first | (with_reducible first | exact HK.out | apply KeepBut.set_ | apply keep_drewN | apply keep_drew | apply keep_alloc) | exact HK.out)) (KeepBut.of_below hb g none) (.inl rfl)); have n2_ := Aside0.mk (below_step (by repeat (first | (with_reducible first | exact HB.out | apply below_alloc | apply pw_below_drewN | apply below_drew1 | refine below_set ?_ (IsS127.ge HI0.out)) | exact HB.out)) hb); have n3_ := Aside0.mk (hbox); have n4_ := Aside0.mk ((by rw [hg]; exact (keep_size (w := w) (g := g) (row := none) (by repeat (first | (with_reducible first | exact HK.out | apply KeepBut.set_ | apply keep_drewN | apply keep_drew | apply keep_alloc) | exact HK.out))) : w.heap.size ≤ gb299)); have n5_ := Aside0.mk ((Nat.le_trans HW0.out (by rw [hg]; exact (keep_size (w := w) (g := g) (row := none) (by repeat (first | (with_reducible first | exact HK.out | apply KeepBut.set_ | apply keep_drewN | apply keep_drew | apply keep_alloc) | exact HK.out))) : w.heap.size ≤ gb299) : w0.heap.size ≤ gb299)); have n6_ := Aside0.mk ((by rw [hg]; exact Nat.ne_of_lt (IsS127.lt (show IsS127 w0 _ g s0_0 s0_1 from by repeat (first | (with_reducible first | exact HI0.out | apply IsS127.alloc | apply IsS127.drewN | apply IsS127.drew | apply IsS127.set_1) | exact HI0.out))) : g ≠ gb299)); have n7_ := Aside0.mk ((by rw [hg]; exact Nat.ne_of_gt (IsS127.lt (show IsS127 w0 _ g s0_0 s0_1 from by repeat (first | (with_reducible first | exact HI0.out | apply IsS127.alloc | apply IsS127.drewN | apply IsS127.drew | apply IsS127.set_1) | exact HI0.out))) : gb299 ≠ g)); clear HI0 HK HB; have HI0 := n0_; have HK := n1_; have HB := n2_; have BK299 := n3_; have GW299 := n4_; have GE299 := n5_; have NB0_299 := n6_; have NB299_0 := n7_; clear n0_ n1_ n2_ n3_ n4_ n5_ n6_ n7_; clear hb hbox hg) | (clear TK1_; (with_reducible refine gate_dst (N := 10) rfl ?_); refine Kd.R_lit Kd.bool _ 4 ?hg (N := 10) ?hd (xs := ([] : List Bool)) (inner := []) (ok := fun _ => True) (okp := fun _ => True) ?hr ?hp (fun _ hk => by first | exact hk | grind) trivial (Below.refl _ _) (Nat.le_refl _) (by simp) ?_; (case hd => rfl); (case hg => rfl); (case hr => first | (go_simp; done) | (go_simp; rfl)); (case hp => exact (Reps.none _ _)); intro v301 w6 ho7 hb hg_ hnew_; clear hg_ hnew_; (first | rw [← Ny300.out] at ho7 | (simp only [Int.reduceToNat] at ho7; rw [← Ny300.out] at ho7)); have n0_ := Aside0.mk (Kd.R_lower ho7 (keep_size (w := w) (g := g) (row := none) (by repeat (first | (with_reducible first | exact HK.out | apply KeepBut.set_ | apply keep_drewN | apply keep_drew | apply keep_alloc | refine keep_far ?_ GW299.out _) | exact HK.out)))); have n1_ := Aside0.mk (IsS127.below (by repeat (first | (with_reducible first | exact HI0.out | apply IsS127.alloc | apply IsS127.drewN | apply IsS127.drew | apply IsS127.set_1 | refine IsS127.far ?_ NB0_299.out _) | exact HI0.out)) hb); have n2_ := bkB BK299 hb; have n3_ := Aside0.mk (KeepBut.trans (by repeat (first | (with_reducible first | exact HK.out | apply KeepBut.set_ | apply keep_drewN | apply keep_drew | apply keep_alloc | refine keep_far ?_ GW299.out _) | exact HK.out)) (KeepBut.of_below hb g none) (.inl rfl)); have n4_ := Aside0.mk (below_step (by repeat (first | (with_reducible first | exact HB.out | apply below_alloc | apply pw_below_drewN | apply below_drew1 | refine below_set ?_ (IsS127.ge HI0.out) | refine below_set ?_ GE299.out) | exact HB.out)) hb); clear HI0 BK299 HK HB; have HO302 := n0_; have HI0 := n1_; have BK299 := n2_; have HK := n3_; have HB := n4_; clear n0_ n1_ n2_ n3_ n4_; clear hb ho7) | (clear TK2_; (with_reducible refine gate_callee (f := 60) rfl ?_); refine goesL_ (some 12) rfl rfl Tryd.func60 (by kernel_rfl) rfl #[.pointer (some ⟨g, 0, none⟩), .int .i64 4] rfl (by (try simp only [List.map_toArray, List.map_cons, List.map_nil]); first | done | rfl | (simp only [List.length_drop, List.length_take]; rfl)) ?_; (with_reducible refine (spec_l20Rd_pick.calls k g s0_0 s0_1 4 t303 t304 w0 _ ?side1 ?side2 A4.out).mono ?_); (case side1 => repeat (first | (with_reducible first | exact HI0.out | apply IsS127.alloc | apply IsS127.drewN | apply IsS127.drew | apply IsS127.set_1 | refine IsS127.far ?_ NB0_299.out _) | exact HI0.out)); (case side2 => repeat (first | (with_reducible first | exact HB.out | apply below_alloc | apply pw_below_drewN | apply below_drew1 | refine below_set ?_ (IsS127.ge HI0.out) | refine below_set ?_ GE299.out) | exact HB.out)); rintro e w8 ⟨rfl, hi, hb, hk⟩; refine ⟨_, rfl, ?_⟩; have n0_ := Aside0.mk (KeepBut.blk hk (g' := gb299) (o := .cells #[.int .i64 a1_0, .slice A1_1 l1_1.length c1_1] 40 (0, 0)) (bk BK299) NB299_0.out (by simp)); have n1_ := Aside0.mk (Kd.R_mono (Kd.R_keep (IsS127.apart (show IsS127 w0 _ g s0_0 s0_1 from by repeat (first | (with_reducible first | exact HI0.out | apply IsS127.alloc | apply IsS127.drewN | apply IsS127.drew | apply IsS127.set_1 | refine IsS127.far ?_ NB0_299.out _) | exact HI0.out)) (rk HO302) (by decide)) hk (fun _ h => h.2)) (fun _ h => h.1)); have n2_ := Aside0.mk (KeepBut.trans (by repeat (first | (with_reducible first | exact HK.out | apply KeepBut.set_ | apply keep_drewN | apply keep_drew | apply keep_alloc | refine keep_far ?_ GW299.out _) | exact HK.out)) hk (.inl rfl)); have n3_ := Aside0.mk (hb); have n4_ := Aside0.mk (hi); clear BK299 HO302 HK HB HI0; have BK299 := n0_; have HO302 := n1_; have HK := n2_; have HB := n3_; have HI0 := n4_; clear n0_ n1_ n2_ n3_ n4_; (try clear hb); (try clear hb2); (try clear hk); (try clear hi)))
 go_loopg [7, 9] k (fun kq v7 v9 w' => ∃ (x7_1 : List Bool) (x9_1 : Int) (x1001_1 : Int), v9 = .int .i64 x9_1 ∧ Aside0 (spec_l20State.l0 kq a2 x7_1 (wrap64 (1 + t303)) x9_1 s0_0 x1001_1 a1_0 l1_1 = some (r1, r2)) ∧ Aside0 (kq ≤ k) ∧ Aside0 (Kd.R Kd.bool 4 w' w.heap.size (fun _ => True) v7 x7_1) ∧ Aside0 (w'.heap[gb299]? = some (.cells #[.int .i64 a1_0, (.slice A1_1 l1_1.length c1_1)] 40 (0, 0))) ∧ Aside0 (IsS127 w0 w' g s0_0 x1001_1) ∧ Aside0 (KeepBut w w' g none) ∧ Aside0 (Below w0.heap.size w0 w'))
 case atStart => exact ⟨(y300), (0), (t304), (by first | rfl | (simp; done) | (simp [*]; done)), H', ⟨Nat.le_refl _⟩, ⟨rk HO302⟩, ⟨bk BK299⟩, ⟨by repeat (first | (with_reducible first | exact HI0.out | apply IsS127.alloc | apply IsS127.drewN | apply IsS127.drew | apply IsS127.set_1 | refine IsS127.far ?_ NB0_299.out _) | exact HI0.out)⟩, ⟨by repeat (first | (with_reducible first | exact HK.out | apply KeepBut.set_ | apply keep_drewN | apply keep_drew | apply keep_alloc | refine keep_far ?_ GW299.out _) | exact HK.out)⟩, ⟨by repeat (first | (with_reducible first | exact HB.out | apply below_alloc | apply pw_below_drewN | apply below_drew1 | refine below_set ?_ (IsS127.ge HI0.out) | refine below_set ?_ GE299.out) | exact HB.out)⟩⟩
 case round =>
  clear H'
  try clear c1
  try clear p2
  try clear c5
  try clear c6
  try clear p6
  obtain ⟨x7_1, x9_1, x1001_1, rfl, HA, HK1, HO_7, BK299, HI0, HK, HB⟩ := hrel
  cases gk with
  | zero => exact absurd HA.out (by simp [spec_l20State.l0])
  | succ k1 =>
   have H := HA.out
   clear HA
   simp only [spec_l20State.l0] at H
   by_cases c9 : x9_1 < (l1_1.length : Int)
   ·rw [if_pos c9] at H
    have c9b0 : decide (x9_1 < (l1_1.length : Int)) = true := decide_eq_true c9
    clear c9
    replace H := Option.bind_eq_some_iff.mp H
    obtain ⟨⟨t305, t306⟩, A100, H⟩ := H
    replace H : (if x7_1.length < 140737488355328 then (spec_l20State.l0 k1 a2 (x7_1 ++ [decide (t305 < (wrap64 (1 + t303)))]) (wrap64 (1 + t303)) (wrap64 (x9_1 + 1)) s0_0 t306 a1_0 l1_1) else (none)) = some (r1, r2) := H
    have A10 := Aside0.mk A100
    clear A100
    by_cases c11 : x7_1.length < 140737488355328
    ·rw [if_pos c11] at H
     have LMc11 := Aside0.mk c11
     clear c11
     obtain ⟨y307, hy307⟩ : ∃ y_ : List Bool, y_ = (x7_1 ++ [decide (t305 < (wrap64 (1 + t303)))]) := ⟨_, rfl⟩
     replace H : (spec_l20State.l0 k1 a2 y307 (wrap64 (1 + t303)) (wrap64 (x9_1 + 1)) s0_0 t306 a1_0 l1_1) = some (r1, r2) := by first | (rw [hy307]; with_reducible exact H) | (have H2_ := (Option.bind_some _ _).symm.trans H; rw [hy307]; with_reducible exact H2_) | (have H2_ := (Option.bind_some _ _).symm.trans H; with_reducible exact H2_) | with_reducible exact H | (rw [hy307]; exact H) | exact H
     have Ny307 := Aside0.mk hy307
     clear hy307
     have H' := Aside0.mk H
     clear H
     have hnb12 := NB299_0.out
     have hnc12 := NB0_299.out
     have hcz13_0 : wr.cell? ⟨gb299, 0, none⟩ = some (.int .i64 a1_0) := (blk_cell BK299.out 0).trans rfl
     have hcz13_1 : wr.cell? ⟨gb299, 1, none⟩ = some (.slice A1_1 l1_1.length c1_1) := (blk_cell BK299.out 1).trans rfl
     have hfz13_0 := blk_frozen BK299.out 0
     have hfz13_1 := blk_frozen BK299.out 1
     go_wp2_with (first | ((with_reducible refine gate_callee (f := 60) rfl ?_); refine goesL_ (some 23) rfl rfl Tryd.func60 (by kernel_rfl) rfl #[.pointer (some ⟨g, 0, none⟩), .int .i64 4] rfl (by (try simp only [List.map_toArray, List.map_cons, List.map_nil]); first | done | rfl | (simp only [List.length_drop, List.length_take]; rfl)) ?_; (with_reducible refine (spec_l20Rd_pick.calls k1 g s0_0 x1001_1 4 t305 t306 w0 _ ?side1 ?side2 A10.out).mono ?_); (case side1 => repeat (first | (with_reducible first | exact HI0.out | apply IsS127.alloc | apply IsS127.drewN | apply IsS127.drew | apply IsS127.set_1 | refine IsS127.far ?_ NB0_299.out _) | exact HI0.out)); (case side2 => repeat (first | (with_reducible first | exact HB.out | apply below_alloc | apply pw_below_drewN | apply below_drew1 | refine below_set ?_ (IsS127.ge HI0.out) | refine below_set ?_ GE299.out) | exact HB.out)); rintro e w14 ⟨rfl, hi, hb, hk⟩; refine ⟨_, rfl, ?_⟩; have n0_ := Aside0.mk (Kd.R_mono (Kd.R_keep (IsS127.apart (show IsS127 w0 _ g s0_0 x1001_1 from by repeat (first | (with_reducible first | exact HI0.out | apply IsS127.alloc | apply IsS127.drewN | apply IsS127.drew | apply IsS127.set_1 | refine IsS127.far ?_ NB0_299.out _) | exact HI0.out)) (rk HO_7) (by decide)) hk (fun _ h => h.2)) (fun _ h => h.1)); have n1_ := Aside0.mk (KeepBut.blk hk (g' := gb299) (o := .cells #[.int .i64 a1_0, .slice A1_1 l1_1.length c1_1] 40 (0, 0)) (bk BK299) NB299_0.out (by simp)); have n2_ := Aside0.mk (KeepBut.trans (by repeat (first | (with_reducible first | exact HK.out | apply KeepBut.set_ | apply keep_drewN | apply keep_drew | apply keep_alloc | refine keep_far ?_ GW299.out _) | exact HK.out)) hk (.inl rfl)); have n3_ := Aside0.mk (hb); have n4_ := Aside0.mk (hi); clear HO_7 BK299 HK HB HI0; have HO_7 := n0_; have BK299 := n1_; have HK := n2_; have HB := n3_; have HI0 := n4_; clear n0_ n1_ n2_ n3_ n4_; (try clear hb); (try clear hb2); (try clear hk); (try clear hi)) | ((with_reducible refine gate_builtin (b := .append) (xs := #[.tmp 21, .tmp 26]) rfl ?_); at_builtin; refine Kd.R_append Kd.bool w.heap.size rfl (.tmp 21) (.tmp 26) 23 4 (.bool false) 1 rfl Tryd.underlying23 info4 rfl (by decide) (by omega) u7 x7_1 (decide (t305 < (wrap64 (1 + t303)))) [.bool (decide (t305 < (wrap64 (1 + t303))))] (fun _ => True) (fun _ => False) rfl rfl ?aP (fun _ hk => by first | exact hk.elim | grind) ?aF ?aO (Below.refl _ _) ?aS ?aL ?_; (case aP => exact rfl); (case aF => exact (fun _ _ => trivial)); (case aO => exact (rk HO_7)); (case aS => exact (keep_size (w := w) (g := g) (row := none) (by repeat (first | (with_reducible first | exact HK.out | apply KeepBut.set_ | apply keep_drewN | apply keep_drew | apply keep_alloc | refine keep_far ?_ GW299.out _) | exact HK.out)))); (case aL => have := LMc11.out; omega); intro v308 w15 ho hb hg hat; rw [← Ny307.out] at ho; have n0_ := Aside0.mk (blk_grown (g := gb299) (o := .cells #[.int .i64 a1_0, .slice A1_1 l1_1.length c1_1] 40 (0, 0)) (bk BK299) hg (Kd.R_ne HO_7.out BK299.out (by decide))); have n1_ := Aside0.mk (IsS127.grown (by repeat (first | (with_reducible first | exact HI0.out | apply IsS127.alloc | apply IsS127.drewN | apply IsS127.drew | apply IsS127.set_1 | refine IsS127.far ?_ NB0_299.out _) | exact HI0.out)) hg (IsS127.own_ne HI0.out HO_7.out (by decide))); have n2_ := Aside0.mk (below_weaken (by repeat (first | (with_reducible first | exact HB.out | apply below_alloc | apply pw_below_drewN | apply below_drew1 | refine below_set ?_ (IsS127.ge HI0.out) | refine below_set ?_ GE299.out) | exact HB.out)) HL.out hb); have n3_ := Aside0.mk (KeepBut.trans (by repeat (first | (with_reducible first | exact HK.out | apply KeepBut.set_ | apply keep_drewN | apply keep_drew | apply keep_alloc | refine keep_far ?_ GW299.out _) | exact HK.out)) (KeepBut.of_grown hg g) (Kd.R_base2 HO_7.out)); have n4_ := Aside0.mk (ho); clear BK299 HI0 HB HK HO_7; have BK299 := n0_; have HI0 := n1_; have HB := n2_; have HK := n3_; have HO309 := n4_; clear n0_ n1_ n2_ n3_ n4_; clear ho hb hg hat))
     go_roundg k1
     case measure => have := HK1.out; omega
     case rel => exact ⟨(y307), (wrap64 (x9_1 + 1)), (t306), (by first | rfl | (simp; done) | (simp [*]; done)), H', ⟨by have := HK1.out; omega⟩, ⟨rk HO309⟩, ⟨bk BK299⟩, ⟨by repeat (first | (with_reducible first | exact HI0.out | apply IsS127.alloc | apply IsS127.drewN | apply IsS127.drew | apply IsS127.set_1 | refine IsS127.far ?_ NB0_299.out _) | exact HI0.out)⟩, ⟨by repeat (first | (with_reducible first | exact HK.out | apply KeepBut.set_ | apply keep_drewN | apply keep_drew | apply keep_alloc | refine keep_far ?_ GW299.out _) | exact HK.out)⟩, ⟨by repeat (first | (with_reducible first | exact HB.out | apply below_alloc | apply pw_below_drewN | apply below_drew1 | refine below_set ?_ (IsS127.ge HI0.out) | refine below_set ?_ GE299.out) | exact HB.out)⟩⟩
    ·rw [if_neg c11] at H
     exact absurd H (by simp)
   ·rw [if_neg c9] at H
    have c9b0 : decide (x9_1 < (l1_1.length : Int)) = false := decide_eq_false c9
    clear c9
    replace H := Option.bind_eq_some_iff.mp H
    obtain ⟨⟨t310, t311⟩, A160, H⟩ := H
    replace H : (if t310 = true then (if x7_1.length < 140737488355328 then (some ((x7_1 ++ [true]), t311)) else (none)) else (some (x7_1, t311))) = some (r1, r2) := H
    have A16 := Aside0.mk A160
    clear A160
    by_cases c17 : t310 = true
    ·subst c17
     have H1 : (if x7_1.length < 140737488355328 then (some ((x7_1 ++ [true]), t311)) else (none)) = some (r1, r2) := by rw [if_pos rfl] at H; exact H
     clear H
     have H := H1
     clear H1
     by_cases c18 : x7_1.length < 140737488355328
     ·rw [if_pos c18] at H
      have LMc18 := Aside0.mk c18
      clear c18
      obtain ⟨y312, hy312⟩ : ∃ y_ : List Bool, y_ = (x7_1 ++ [true]) := ⟨_, rfl⟩
      replace H : (some (y312, t311)) = some (r1, r2) := by first | (rw [hy312]; with_reducible exact H) | (have H2_ := (Option.bind_some _ _).symm.trans H; rw [hy312]; with_reducible exact H2_) | (have H2_ := (Option.bind_some _ _).symm.trans H; with_reducible exact H2_) | with_reducible exact H | (rw [hy312]; exact H) | exact H
      have Ny312 := Aside0.mk hy312
      clear hy312
      simp only [Option.some.injEq, Prod.mk.injEq] at H
      obtain ⟨rfl, rfl⟩ := H
      have hnb19 := NB299_0.out
      have hnc19 := NB0_299.out
      have hcz20_0 : wr.cell? ⟨gb299, 0, none⟩ = some (.int .i64 a1_0) := (blk_cell BK299.out 0).trans rfl
      have hcz20_1 : wr.cell? ⟨gb299, 1, none⟩ = some (.slice A1_1 l1_1.length c1_1) := (blk_cell BK299.out 1).trans rfl
      have hfz20_0 := blk_frozen BK299.out 0
      have hfz20_1 := blk_frozen BK299.out 1
      go_wp2_with (first | ((with_reducible refine gate_callee (f := 50) rfl ?_); refine goesL_ (some 30) rfl rfl Tryd.func50 (by kernel_rfl) rfl #[.pointer (some ⟨g, 0, none⟩), .int .i64 a2] rfl (by (try simp only [List.map_toArray, List.map_cons, List.map_nil]); first | done | rfl | (simp only [List.length_drop, List.length_take]; rfl)) ?_; (with_reducible refine (spec_l20Rd_odd.calls k1 g s0_0 x1001_1 a2 true t311 w0 _ ?side1 ?side2 A16.out).mono ?_); (case side1 => repeat (first | (with_reducible first | exact HI0.out | apply IsS127.alloc | apply IsS127.drewN | apply IsS127.drew | apply IsS127.set_1 | refine IsS127.far ?_ NB0_299.out _) | exact HI0.out)); (case side2 => repeat (first | (with_reducible first | exact HB.out | apply below_alloc | apply pw_below_drewN | apply below_drew1 | refine below_set ?_ (IsS127.ge HI0.out) | refine below_set ?_ GE299.out) | exact HB.out)); rintro e w21 ⟨rfl, hi, hb, hk⟩; refine ⟨_, rfl, ?_⟩; have n0_ := Aside0.mk (Kd.R_mono (Kd.R_keep (IsS127.apart (show IsS127 w0 _ g s0_0 x1001_1 from by repeat (first | (with_reducible first | exact HI0.out | apply IsS127.alloc | apply IsS127.drewN | apply IsS127.drew | apply IsS127.set_1 | refine IsS127.far ?_ NB0_299.out _) | exact HI0.out)) (rk HO_7) (by decide)) hk (fun _ h => h.2)) (fun _ h => h.1)); have n1_ := Aside0.mk (KeepBut.blk hk (g' := gb299) (o := .cells #[.int .i64 a1_0, .slice A1_1 l1_1.length c1_1] 40 (0, 0)) (bk BK299) NB299_0.out (by simp)); have n2_ := Aside0.mk (KeepBut.trans (by repeat (first | (with_reducible first | exact HK.out | apply KeepBut.set_ | apply keep_drewN | apply keep_drew | apply keep_alloc | refine keep_far ?_ GW299.out _) | exact HK.out)) hk (.inl rfl)); have n3_ := Aside0.mk (hb); have n4_ := Aside0.mk (hi); clear HO_7 BK299 HK HB HI0; have HO_7 := n0_; have BK299 := n1_; have HK := n2_; have HB := n3_; have HI0 := n4_; clear n0_ n1_ n2_ n3_ n4_; (try clear hb); (try clear hb2); (try clear hk); (try clear hi)) | ((with_reducible refine gate_builtin (b := .append) (xs := #[.tmp 31, .tmp 32]) rfl ?_); at_builtin; refine Kd.R_append Kd.bool w.heap.size rfl (.tmp 31) (.tmp 32) 23 4 (.bool false) 1 rfl Tryd.underlying23 info4 rfl (by decide) (by omega) u7 x7_1 true [.bool true] (fun _ => True) (fun _ => False) rfl rfl ?aP (fun _ hk => by first | exact hk.elim | grind) ?aF ?aO (Below.refl _ _) ?aS ?aL ?_; (case aP => exact rfl); (case aF => exact (fun _ _ => trivial)); (case aO => exact (rk HO_7)); (case aS => exact (keep_size (w := w) (g := g) (row := none) (by repeat (first | (with_reducible first | exact HK.out | apply KeepBut.set_ | apply keep_drewN | apply keep_drew | apply keep_alloc | refine keep_far ?_ GW299.out _) | exact HK.out)))); (case aL => have := LMc18.out; omega); intro v313 w22 ho hb hg hat; rw [← Ny312.out] at ho; have n0_ := Aside0.mk (blk_grown (g := gb299) (o := .cells #[.int .i64 a1_0, .slice A1_1 l1_1.length c1_1] 40 (0, 0)) (bk BK299) hg (Kd.R_ne HO_7.out BK299.out (by decide))); have n1_ := Aside0.mk (IsS127.grown (by repeat (first | (with_reducible first | exact HI0.out | apply IsS127.alloc | apply IsS127.drewN | apply IsS127.drew | apply IsS127.set_1 | refine IsS127.far ?_ NB0_299.out _) | exact HI0.out)) hg (IsS127.own_ne HI0.out HO_7.out (by decide))); have n2_ := Aside0.mk (below_weaken (by repeat (first | (with_reducible first | exact HB.out | apply below_alloc | apply pw_below_drewN | apply below_drew1 | refine below_set ?_ (IsS127.ge HI0.out) | refine below_set ?_ GE299.out) | exact HB.out)) HL.out hb); have n3_ := Aside0.mk (KeepBut.trans (by repeat (first | (with_reducible first | exact HK.out | apply KeepBut.set_ | apply keep_drewN | apply keep_drew | apply keep_alloc | refine keep_far ?_ GW299.out _) | exact HK.out)) (KeepBut.of_grown hg g) (Kd.R_base2 HO_7.out)); have n4_ := Aside0.mk (ho); clear BK299 HI0 HB HK HO_7; have BK299 := n0_; have HI0 := n1_; have HB := n2_; have HK := n3_; have HO314 := n4_; clear n0_ n1_ n2_ n3_ n4_; clear ho hb hg hat))
      go_ret
      exact ⟨_, by first | rfl | (simp [errW_none, errW_some] <;> rfl) | (simp [*, errW_none, errW_some] <;> rfl), rk HO314, by repeat (first | (with_reducible first | exact HI0.out | apply IsS127.alloc | apply IsS127.drewN | apply IsS127.drew | apply IsS127.set_1 | refine IsS127.far ?_ NB0_299.out _) | exact HI0.out), by repeat (first | (with_reducible first | exact HB.out | apply below_alloc | apply pw_below_drewN | apply below_drew1 | refine below_set ?_ (IsS127.ge HI0.out) | refine below_set ?_ GE299.out) | exact HB.out), by repeat (first | (with_reducible first | exact HK.out | apply KeepBut.set_ | apply keep_drewN | apply keep_drew | apply keep_alloc | refine keep_far ?_ GW299.out _) | exact HK.out)⟩
     ·rw [if_neg c18] at H
      exact absurd H (by simp)
    ·replace c17 := Bool.eq_false_iff.mpr c17
     subst c17
     have H1 : (some (x7_1, t311)) = some (r1, r2) := by rw [if_neg (show ¬ (false = true) by decide)] at H; exact H
     clear H
     have H := H1
     clear H1
     simp only [Option.some.injEq, Prod.mk.injEq] at H
     obtain ⟨rfl, rfl⟩ := H
     have hnb23 := NB299_0.out
     have hnc23 := NB0_299.out
     have hcz24_0 : wr.cell? ⟨gb299, 0, none⟩ = some (.int .i64 a1_0) := (blk_cell BK299.out 0).trans rfl
     have hcz24_1 : wr.cell? ⟨gb299, 1, none⟩ = some (.slice A1_1 l1_1.length c1_1) := (blk_cell BK299.out 1).trans rfl
     have hfz24_0 := blk_frozen BK299.out 0
     have hfz24_1 := blk_frozen BK299.out 1
     go_wp2_with (first | ((with_reducible refine gate_callee (f := 50) rfl ?_); refine goesL_ (some 30) rfl rfl Tryd.func50 (by kernel_rfl) rfl #[.pointer (some ⟨g, 0, none⟩), .int .i64 a2] rfl (by (try simp only [List.map_toArray, List.map_cons, List.map_nil]); first | done | rfl | (simp only [List.length_drop, List.length_take]; rfl)) ?_; (with_reducible refine (spec_l20Rd_odd.calls k1 g s0_0 x1001_1 a2 false t311 w0 _ ?side1 ?side2 A16.out).mono ?_); (case side1 => repeat (first | (with_reducible first | exact HI0.out | apply IsS127.alloc | apply IsS127.drewN | apply IsS127.drew | apply IsS127.set_1 | refine IsS127.far ?_ NB0_299.out _) | exact HI0.out)); (case side2 => repeat (first | (with_reducible first | exact HB.out | apply below_alloc | apply pw_below_drewN | apply below_drew1 | refine below_set ?_ (IsS127.ge HI0.out) | refine below_set ?_ GE299.out) | exact HB.out)); rintro e w25 ⟨rfl, hi, hb, hk⟩; refine ⟨_, rfl, ?_⟩; have n0_ := Aside0.mk (Kd.R_mono (Kd.R_keep (IsS127.apart (show IsS127 w0 _ g s0_0 x1001_1 from by repeat (first | (with_reducible first | exact HI0.out | apply IsS127.alloc | apply IsS127.drewN | apply IsS127.drew | apply IsS127.set_1 | refine IsS127.far ?_ NB0_299.out _) | exact HI0.out)) (rk HO_7) (by decide)) hk (fun _ h => h.2)) (fun _ h => h.1)); have n1_ := Aside0.mk (KeepBut.blk hk (g' := gb299) (o := .cells #[.int .i64 a1_0, .slice A1_1 l1_1.length c1_1] 40 (0, 0)) (bk BK299) NB299_0.out (by simp)); have n2_ := Aside0.mk (KeepBut.trans (by repeat (first | (with_reducible first | exact HK.out | apply KeepBut.set_ | apply keep_drewN | apply keep_drew | apply keep_alloc | refine keep_far ?_ GW299.out _) | exact HK.out)) hk (.inl rfl)); have n3_ := Aside0.mk (hb); have n4_ := Aside0.mk (hi); clear HO_7 BK299 HK HB HI0; have HO_7 := n0_; have BK299 := n1_; have HK := n2_; have HB := n3_; have HI0 := n4_; clear n0_ n1_ n2_ n3_ n4_; (try clear hb); (try clear hb2); (try clear hk); (try clear hi)))
     go_ret
     exact ⟨_, by first | rfl | (simp [errW_none, errW_some] <;> rfl) | (simp [*, errW_none, errW_some] <;> rfl), rk HO_7, by repeat (first | (with_reducible first | exact HI0.out | apply IsS127.alloc | apply IsS127.drewN | apply IsS127.drew | apply IsS127.set_1 | refine IsS127.far ?_ NB0_299.out _) | exact HI0.out), by repeat (first | (with_reducible first | exact HB.out | apply below_alloc | apply pw_below_drewN | apply below_drew1 | refine below_set ?_ (IsS127.ge HI0.out) | refine below_set ?_ GE299.out) | exact HB.out), by repeat (first | (with_reducible first | exact HK.out | apply KeepBut.set_ | apply keep_drewN | apply keep_drew | apply keep_alloc | refine keep_far ?_ GW299.out _) | exact HK.out)⟩

/-! ### spec_DrawOrderTo: function 14 -/
def spec_DrawOrderTo.f (k : Nat) (l0 : List Int) : Option (List Bool × List Bool) := (spec_l20Open.f l0).bind fun bt315 => ((spec_l20Rd_odd.f k bt315.1 bt315.2 20).bind fun bt318 => (if bt318.1 = true then (if 11 ≤ 281474976710656 then (some ((List.replicate 11 false), (List.replicate 11 false))) else (none)) else ((spec_l20Net.f k bt315.1 bt318.2 0).bind fun bt326 => ((spec_l20State.f k bt315.1 bt326.2.2 bt326.1 bt326.2.1 0).bind fun bt332 => ((spec_l20State.f k bt315.1 bt332.2 bt326.1 bt326.2.1 7).bind fun bt336 => (some (bt332.1, bt336.1)))))))
theorem spec_DrawOrderTo.mono : ∀ a0 k, LeO (spec_DrawOrderTo.f k a0) (spec_DrawOrderTo.f (k + 1) a0) := by
 intro a0 k
 unfold spec_DrawOrderTo.f
 repeat' first
   | (with_reducible exact spec_l20Net.mono _ _ _ _)
   | (with_reducible exact spec_l20Rd_odd.mono _ _ _ _)
   | (with_reducible exact spec_l20State.mono _ _ _ _ _ _)
   | (with_reducible exact LeO.refl _)
   | (with_reducible exact LeO.none _)
   | (with_reducible refine LeO.ite ?_ ?_)
   | (with_reducible refine LeO.bind ?_ (fun _ => ?_))
   | exact spec_l20Net.mono _ _ _ _
   | exact spec_l20Rd_odd.mono _ _ _ _
   | exact spec_l20State.mono _ _ _ _ _ _
   | exact LeO.none _
   | refine LeO.ite ?_ ?_
   | refine LeO.bind ?_ (fun _ => ?_)
def spec_DrawOrderTo.T5 : Bool × List (List Nat × List Nat) := (true, [([], []), ([], []), ([0, 1], [0, 1]), ([], []), ([], []), ([3, 4, 2], [3, 4]), ([2, 5, 0, 1, 2], [2]), ([5, 6, 0, 1, 2, 3, 4, 5, 6], [5])])
def spec_DrawOrderTo.B5 : List Nat := [0, 0, 3, 0, 0, 31, 63, 127]
theorem spec_DrawOrderTo.tab5 : rtab .any (opsOf Tryd.f14 5) = spec_DrawOrderTo.T5 := by kernel_rfl
theorem spec_DrawOrderTo.bits5 : waitsOk spec_DrawOrderTo.T5.2 spec_DrawOrderTo.B5 = true := by kernel_rfl
set_option maxHeartbeats 8000000 in
set_option maxRecDepth 100000 in
theorem spec_DrawOrderTo.calls (k : Nat) (A0 : Option Addr) (c0 : Nat) (l0 : List Int) (r1 : List Bool) (r2 : List Bool) (w : World) (hr0 : Kd.C (Kd.int .u8) w A0 l0.length l0) (hc0 : l0.length ≤ c0) (h : spec_DrawOrderTo.f k l0 = some (r1, r2)) :
  Calls Tryd.prog 14 #[.slice A0 l0.length c0] w fun e w' => ∃ v0_ v1_ : Value, e = .returned (.tuple #[v0_, v1_]) ∧ Kd.R Kd.bool 4 w' w.heap.size (fun k_ => some k_ ≠ (v1_ : Value).ownBlock) v0_ r1 ∧ Kd.R Kd.bool 4 w' w.heap.size (fun k_ => some k_ ≠ (v0_ : Value).ownBlock) v1_ r2 ∧ Below w.heap.size w w' := by
 have hu40 := Tryd.underlying40
 have HR0 := Aside0.mk hr0
 have HC0 := Aside0.mk hc0
 clear hr0 hc0
 have HB := Aside0.mk (Below.refl w.heap.size w)
 have H : ((spec_l20Open.f l0).bind fun bt315 => ((spec_l20Rd_odd.f k bt315.1 bt315.2 20).bind fun bt318 => (if bt318.1 = true then (if 11 ≤ 281474976710656 then (some ((List.replicate 11 false), (List.replicate 11 false))) else (none)) else ((spec_l20Net.f k bt315.1 bt318.2 0).bind fun bt326 => ((spec_l20State.f k bt315.1 bt326.2.2 bt326.1 bt326.2.1 0).bind fun bt332 => ((spec_l20State.f k bt315.1 bt332.2 bt326.1 bt326.2.1 7).bind fun bt336 => (some (bt332.1, bt336.1)))))))) = some (r1, r2) := h
 clear h
 replace H := Option.bind_eq_some_iff.mp H
 obtain ⟨⟨t315, t316⟩, A20, H⟩ := H
 replace H : ((spec_l20Rd_odd.f k t315 t316 20).bind fun bt318 => (if bt318.1 = true then (if 11 ≤ 281474976710656 then (some ((List.replicate 11 false), (List.replicate 11 false))) else (none)) else ((spec_l20Net.f k t315 bt318.2 0).bind fun bt326 => ((spec_l20State.f k t315 bt326.2.2 bt326.1 bt326.2.1 0).bind fun bt332 => ((spec_l20State.f k t315 bt332.2 bt326.1 bt326.2.1 7).bind fun bt336 => (some (bt332.1, bt336.1))))))) = some (r1, r2) := H
 have A2 := Aside0.mk A20
 clear A20
 replace H := Option.bind_eq_some_iff.mp H
 obtain ⟨⟨t318, t319⟩, A30, H⟩ := H
 replace H : (if t318 = true then (if 11 ≤ 281474976710656 then (some ((List.replicate 11 false), (List.replicate 11 false))) else (none)) else ((spec_l20Net.f k t315 t319 0).bind fun bt326 => ((spec_l20State.f k t315 bt326.2.2 bt326.1 bt326.2.1 0).bind fun bt332 => ((spec_l20State.f k t315 bt332.2 bt326.1 bt326.2.1 7).bind fun bt336 => (some (bt332.1, bt336.1)))))) = some (r1, r2) := H
 have A3 := Aside0.mk A30
 clear A30
 by_cases c4 : t318 = true
 ·subst c4
  have H1 : (if 11 ≤ 281474976710656 then (some ((List.replicate 11 false), (List.replicate 11 false))) else (none)) = some (r1, r2) := by rw [if_pos rfl] at H; exact H
  clear H
  have H := H1
  clear H1
  by_cases c5 : 11 ≤ 281474976710656
  ·rw [if_pos c5] at H
   have c5b0 := eq_true c5
   have c5b1 : decide (11 ≤ 281474976710656) = true := decide_eq_true c5
   clear c5
   obtain ⟨y320, hy320⟩ : ∃ y_ : List Bool, y_ = (List.replicate 11 false) := ⟨_, rfl⟩
   replace H : (some (y320, (List.replicate 11 false))) = some (r1, r2) := by first | (rw [hy320]; with_reducible exact H) | (have H2_ := (Option.bind_some _ _).symm.trans H; rw [hy320]; with_reducible exact H2_) | (have H2_ := (Option.bind_some _ _).symm.trans H; with_reducible exact H2_) | with_reducible exact H | (rw [hy320]; exact H) | exact H
   have Ny320 := Aside0.mk hy320
   clear hy320
   obtain ⟨y323, hy323⟩ : ∃ y_ : List Bool, y_ = (List.replicate 11 false) := ⟨_, rfl⟩
   replace H : (some (y320, y323)) = some (r1, r2) := by first | (rw [hy323]; with_reducible exact H) | (have H2_ := (Option.bind_some _ _).symm.trans H; rw [hy323]; with_reducible exact H2_) | (have H2_ := (Option.bind_some _ _).symm.trans H; with_reducible exact H2_) | with_reducible exact H | (rw [hy323]; exact H) | exact H
   have Ny323 := Aside0.mk hy323
   clear hy323
   simp only [Option.some.injEq, Prod.mk.injEq] at H
   obtain ⟨rfl, rfl⟩ := H
   go_enter Tryd.func14, Tryd.ntmps14
   try go_wp2_with (first | ((with_reducible refine gate_callee (f := 44) rfl ?_); refine goesL_ (some 7) rfl rfl Tryd.func44 (by kernel_rfl) rfl #[.slice A0 l0.length c0] rfl (by (try simp only [List.map_toArray, List.map_cons, List.map_nil]); first | done | rfl | (simp only [List.length_drop, List.length_take]; rfl)) ?_; (with_reducible refine (spec_l20Open.calls _ _ l0 t315 t316 w _ ?side1 ?side2 ?side3 A2.out).mono ?_); (case side1 => exact bw); (case side2 => exact HR0.out); (case side3 => exact HC0.out); rintro e w6 ⟨g317, rfl, hi, hb, hb2⟩; refine ⟨_, rfl, ?_⟩; have n0_ := Aside0.mk (hb); have n1_ := Aside0.mk (hi); clear HB; have HB := n0_; have HI317 := n1_; clear n0_ n1_; (try clear hb); (try clear hb2); (try clear hk); (try clear hi)) | ((with_reducible refine gate_callee (f := 50) rfl ?_); refine goesL_ (some 9) rfl rfl Tryd.func50 (by kernel_rfl) rfl #[.pointer (some ⟨g317, 0, none⟩), .int .i64 20] rfl (by (try simp only [List.map_toArray, List.map_cons, List.map_nil]); first | done | rfl | (simp only [List.length_drop, List.length_take]; rfl)) ?_; (with_reducible refine (spec_l20Rd_odd.calls k g317 t315 t316 20 true t319 w _ ?side1 ?side2 A3.out).mono ?_); (case side1 => repeat (first | (with_reducible first | exact HI317.out | apply IsS127.alloc | apply IsS127.drewN | apply IsS127.drew | apply IsS127.set_1) | exact HI317.out)); (case side2 => repeat (first | (with_reducible first | exact HB.out | apply below_alloc | apply pw_below_drewN | apply below_drew1 | refine below_set ?_ (IsS127.ge HI317.out)) | exact HB.out)); rintro e w7 ⟨rfl, hi, hb, hk⟩; refine ⟨_, rfl, ?_⟩; have n0_ := Aside0.mk (hb); have n1_ := Aside0.mk (hi); clear HB HI317; have HB := n0_; have HI317 := n1_; clear n0_ n1_; (try clear hb); (try clear hb2); (try clear hk); (try clear hi)))
   have n0_ := Aside0.mk (IsS127.drew HI317.out)
   have n1_ := Aside0.mk (below_drew1 HB.out)
   clear HI317
   clear HB
   have HI317 := n0_
   have HB := n1_
   clear n0_ n1_
   refine start_ (n := 4) (S := fun w' => True) (ds := []) #[false, false, false, false] (by kernel_rfl) rfl rfl trivial (fun hHeld => ?_)
   generalize w7.drew = w8 at HI317 HB hHeld ⊢
   refine join_ (σ := Value × Value) 1 #[true, true, true, false] (fun s_ => [(10, s_.1), (11, s_.2), (2, s_.1)]) (fun s_ w' => (Kd.R Kd.bool 4 w' w.heap.size (fun k_ => some k_ ≠ (s_.2 : Value).ownBlock) s_.1 y320) ∧ (Kd.R Kd.bool 4 w' w.heap.size (fun k_ => some k_ ≠ (s_.1 : Value).ownBlock) s_.2 y323) ∧ (IsS127 w w' g317 t315 t319) ∧ (Below w.heap.size w w')) ?_ ?_
   rotate_left
   ·intro hCont
    refine two_ (i := 0) (j := 1) (Ni := some 10) (Nj := some 11) #[true, false, false, false] #[false, true, false, false] rfl rfl rfl rfl (by kernel_rfl) (by decide) (by decide) (fun K hK => ?_) (fun K hK => ?_)
    ·skip
     refine Kd.R_make_step Kd.bool _ 4 (by rfl) (N := 10) rfl 23 _ _ rfl 11 rfl rfl Tryd.underlying23 (.bool false) 1 info4 rfl (by decide) (by omega) false (ok := fun _ => True) (okp := fun _ => True) rfl (fun _ hk => by first | exact hk | grind) trivial (by omega) (by omega) (Below.refl _ _) (Nat.le_refl _) ?_
     intro v321 w9 ho10 hb hg_ hnew_
     clear hg_ hnew_
     (first | rw [← Ny320.out] at ho10 | (simp only [Int.reduceToNat] at ho10; rw [← Ny320.out] at ho10))
     have n0_ := Aside0.mk (Kd.R_lower ho10 (below_size (by repeat (first | (with_reducible first | exact HB.out | apply below_alloc | apply pw_below_drewN | apply below_drew1 | refine below_set ?_ (IsS127.ge HI317.out)) | exact HB.out))))
     have n1_ := Aside0.mk (IsS127.below (by repeat (first | (with_reducible first | exact HI317.out | apply IsS127.alloc | apply IsS127.drewN | apply IsS127.drew | apply IsS127.set_1) | exact HI317.out)) hb)
     have n2_ := Aside0.mk (below_step (by repeat (first | (with_reducible first | exact HB.out | apply below_alloc | apply pw_below_drewN | apply below_drew1 | refine below_set ?_ (IsS127.ge HI317.out)) | exact HB.out)) hb)
     clear HI317
     clear HB
     have HO322 := n0_
     have HI317 := n1_
     have HB := n2_
     clear n0_ n1_ n2_
     clear hb ho10
     refine hK.out _ _ trivial (fun hHeld => ?_)
     clear hK K
     refine norm_ (a' := ?_) ?_ ?_
     rotate_left
     ·show Act.put _ (some 10) _ = _
      simp only [Act.put, List.setIfInBounds_toArray, List.set_cons_zero, List.set_cons_succ, i64_w, i32_w]
      rfl
     refine pure_ (i := 2) (N := some 2) (v := ?_) (a' := ?_) #[true, false, true, false] rfl rfl (by kernel_rfl) (fun _ _ _ h => h) (Or.inl ⟨by rfl, ?_⟩) ?_ ?_
     rotate_left
     ·intro w'
      go_simp
      with_reducible rfl
     rotate_left
     ·simp only [Act.put, List.setIfInBounds_toArray, List.set_cons_zero, List.set_cons_succ, i64_w, i32_w]
      rfl
     refine one_ (i := 1) (N := some 11) #[true, true, true, false] rfl rfl (by kernel_rfl) (by decide) (fun K hK => ?_)
     refine Kd.R_make_step Kd.bool _ 4 (by rfl) (N := 11) rfl 23 _ _ rfl 11 rfl rfl Tryd.underlying23 (.bool false) 1 info4 rfl (by decide) (by omega) false (ok := fun _ => True) (okp := fun _ => True) rfl (fun _ hk => by first | exact hk | grind) trivial (by omega) (by omega) (Below.refl _ _) (Nat.le_refl _) ?_
     intro v324 w11 ho12 hb hg_ hnew_
     clear hg_ hnew_
     (first | rw [← Ny323.out] at ho12 | (simp only [Int.reduceToNat] at ho12; rw [← Ny323.out] at ho12))
     have n0_ := Aside0.mk (Kd.R_elder' (rk HO322) (Kd.R_base ho12) hb)
     have n1_ := Aside0.mk (Kd.R_lower (Kd.R_new' ho12 (Kd.R_lt (rk HO322))) (below_size (by repeat (first | (with_reducible first | exact HB.out | apply below_alloc | apply pw_below_drewN | apply below_drew1 | refine below_set ?_ (IsS127.ge HI317.out)) | exact HB.out))))
     have n2_ := Aside0.mk (IsS127.below (by repeat (first | (with_reducible first | exact HI317.out | apply IsS127.alloc | apply IsS127.drewN | apply IsS127.drew | apply IsS127.set_1) | exact HI317.out)) hb)
     have n3_ := Aside0.mk (below_step (by repeat (first | (with_reducible first | exact HB.out | apply below_alloc | apply pw_below_drewN | apply below_drew1 | refine below_set ?_ (IsS127.ge HI317.out)) | exact HB.out)) hb)
     clear HO322
     clear HI317
     clear HB
     have HO322 := n0_
     have HO325 := n1_
     have HI317 := n2_
     have HB := n3_
     clear n0_ n1_ n2_ n3_
     clear hb ho12
     refine hK.out _ _ trivial (fun hHeld => ?_)
     clear hK K
     refine norm_ (a' := ?_) ?_ ?_
     rotate_left
     ·show Act.put _ (some 11) _ = _
      simp only [Act.put, List.setIfInBounds_toArray, List.set_cons_zero, List.set_cons_succ, i64_w, i32_w]
      rfl
     exact norm_ (by simp only [putAll, Act.put, List.setIfInBounds_toArray, List.set_cons_zero, List.set_cons_succ]) (hCont (v321, v324) _ ⟨(by (with_reducible repeat (first | apply Kd.R_alloc | apply Kd.R_drewN | apply Kd.R_drew)); exact Kd.R_mono HO322.out (fun _ hk => by first | exact hk.2 | grind)), (by (with_reducible repeat (first | apply Kd.R_alloc | apply Kd.R_drewN | apply Kd.R_drew)); exact Kd.R_mono HO325.out (fun _ hk => by first | exact hk.2 | grind)), (by repeat (first | (with_reducible first | exact HI317.out | apply IsS127.alloc | apply IsS127.drewN | apply IsS127.drew | apply IsS127.set_1) | exact HI317.out)), (by repeat (first | (with_reducible first | exact HB.out | apply below_alloc | apply pw_below_drewN | apply below_drew1 | refine below_set ?_ (IsS127.ge HI317.out)) | exact HB.out))⟩)
    ·skip
     refine Kd.R_make_step Kd.bool _ 4 (by rfl) (N := 11) rfl 23 _ _ rfl 11 rfl rfl Tryd.underlying23 (.bool false) 1 info4 rfl (by decide) (by omega) false (ok := fun _ => True) (okp := fun _ => True) rfl (fun _ hk => by first | exact hk | grind) trivial (by omega) (by omega) (Below.refl _ _) (Nat.le_refl _) ?_
     intro v324 w9 ho10 hb hg_ hnew_
     clear hg_ hnew_
     (first | rw [← Ny323.out] at ho10 | (simp only [Int.reduceToNat] at ho10; rw [← Ny323.out] at ho10))
     have n0_ := Aside0.mk (Kd.R_lower ho10 (below_size (by repeat (first | (with_reducible first | exact HB.out | apply below_alloc | apply pw_below_drewN | apply below_drew1 | refine below_set ?_ (IsS127.ge HI317.out)) | exact HB.out))))
     have n1_ := Aside0.mk (IsS127.below (by repeat (first | (with_reducible first | exact HI317.out | apply IsS127.alloc | apply IsS127.drewN | apply IsS127.drew | apply IsS127.set_1) | exact HI317.out)) hb)
     have n2_ := Aside0.mk (below_step (by repeat (first | (with_reducible first | exact HB.out | apply below_alloc | apply pw_below_drewN | apply below_drew1 | refine below_set ?_ (IsS127.ge HI317.out)) | exact HB.out)) hb)
     clear HI317
     clear HB
     have HO325 := n0_
     have HI317 := n1_
     have HB := n2_
     clear n0_ n1_ n2_
     clear hb ho10
     refine hK.out _ _ trivial (fun hHeld => ?_)
     clear hK K
     refine norm_ (a' := ?_) ?_ ?_
     rotate_left
     ·show Act.put _ (some 11) _ = _
      simp only [Act.put, List.setIfInBounds_toArray, List.set_cons_zero, List.set_cons_succ, i64_w, i32_w]
      rfl
     refine one_ (i := 0) (N := some 10) #[true, true, false, false] rfl rfl (by kernel_rfl) (by decide) (fun K hK => ?_)
     refine Kd.R_make_step Kd.bool _ 4 (by rfl) (N := 10) rfl 23 _ _ rfl 11 rfl rfl Tryd.underlying23 (.bool false) 1 info4 rfl (by decide) (by omega) false (ok := fun _ => True) (okp := fun _ => True) rfl (fun _ hk => by first | exact hk | grind) trivial (by omega) (by omega) (Below.refl _ _) (Nat.le_refl _) ?_
     intro v321 w11 ho12 hb hg_ hnew_
     clear hg_ hnew_
     (first | rw [← Ny320.out] at ho12 | (simp only [Int.reduceToNat] at ho12; rw [← Ny320.out] at ho12))
     have n0_ := Aside0.mk (Kd.R_elder' (rk HO325) (Kd.R_base ho12) hb)
     have n1_ := Aside0.mk (Kd.R_lower (Kd.R_new' ho12 (Kd.R_lt (rk HO325))) (below_size (by repeat (first | (with_reducible first | exact HB.out | apply below_alloc | apply pw_below_drewN | apply below_drew1 | refine below_set ?_ (IsS127.ge HI317.out)) | exact HB.out))))
     have n2_ := Aside0.mk (IsS127.below (by repeat (first | (with_reducible first | exact HI317.out | apply IsS127.alloc | apply IsS127.drewN | apply IsS127.drew | apply IsS127.set_1) | exact HI317.out)) hb)
     have n3_ := Aside0.mk (below_step (by repeat (first | (with_reducible first | exact HB.out | apply below_alloc | apply pw_below_drewN | apply below_drew1 | refine below_set ?_ (IsS127.ge HI317.out)) | exact HB.out)) hb)
     clear HO325
     clear HI317
     clear HB
     have HO325 := n0_
     have HO322 := n1_
     have HI317 := n2_
     have HB := n3_
     clear n0_ n1_ n2_ n3_
     clear hb ho12
     refine hK.out _ _ trivial (fun hHeld => ?_)
     clear hK K
     refine norm_ (a' := ?_) ?_ ?_
     rotate_left
     ·show Act.put _ (some 10) _ = _
      simp only [Act.put, List.setIfInBounds_toArray, List.set_cons_zero, List.set_cons_succ, i64_w, i32_w]
      rfl
     refine pure_ (i := 2) (N := some 2) (v := ?_) (a' := ?_) #[true, true, true, false] rfl rfl (by kernel_rfl) (fun _ _ _ h => h) (Or.inl ⟨by rfl, ?_⟩) ?_ ?_
     rotate_left
     ·intro w'
      go_simp
      with_reducible rfl
     rotate_left
     ·simp only [Act.put, List.setIfInBounds_toArray, List.set_cons_zero, List.set_cons_succ, i64_w, i32_w]
      rfl
     exact norm_ (by simp only [putAll, Act.put, List.setIfInBounds_toArray, List.set_cons_zero, List.set_cons_succ]) (hCont (v321, v324) _ ⟨(by (with_reducible repeat (first | apply Kd.R_alloc | apply Kd.R_drewN | apply Kd.R_drew)); exact Kd.R_mono HO322.out (fun _ hk => by first | exact hk.2 | grind)), (by (with_reducible repeat (first | apply Kd.R_alloc | apply Kd.R_drewN | apply Kd.R_drew)); exact Kd.R_mono HO325.out (fun _ hk => by first | exact hk.2 | grind)), (by repeat (first | (with_reducible first | exact HI317.out | apply IsS127.alloc | apply IsS127.drewN | apply IsS127.drew | apply IsS127.set_1) | exact HI317.out)), (by repeat (first | (with_reducible first | exact HB.out | apply below_alloc | apply pw_below_drewN | apply below_drew1 | refine below_set ?_ (IsS127.ge HI317.out)) | exact HB.out))⟩)
   rintro ⟨v321, v324⟩ w13 ⟨h0_, h1_, h2_, h3_⟩
   have n0_ : Aside0 (Kd.R Kd.bool 4 w13 w.heap.size (fun k_ => some k_ ≠ (v324 : Value).ownBlock) v321 y320) := ⟨h0_⟩
   have n1_ : Aside0 (Kd.R Kd.bool 4 w13 w.heap.size (fun k_ => some k_ ≠ (v321 : Value).ownBlock) v324 y323) := ⟨h1_⟩
   have n2_ : Aside0 (IsS127 w w13 g317 t315 t319) := ⟨h2_⟩
   have n3_ : Aside0 (Below w.heap.size w w13) := ⟨h3_⟩
   clear HI317
   clear HB
   clear h0_ h1_ h2_ h3_
   have HO322 := n0_
   have HO325 := n1_
   have HI317 := n2_
   have HB := n3_
   clear n0_ n1_ n2_ n3_
   have hHeld := trivial
   refine norm_ (a' := ?_) ?_ ?_
   rotate_left
   ·simp only [putAll, Act.put, List.setIfInBounds_toArray, List.set_cons_zero, List.set_cons_succ]
    rfl
   refine pure_ (i := 3) (N := some 3) (v := ?_) (a' := ?_) #[true, true, true, true] rfl rfl (by kernel_rfl) (fun _ _ _ h => h) (Or.inl ⟨by rfl, ?_⟩) ?_ ?_
   rotate_left
   ·intro w'
    go_simp
    with_reducible rfl
   rotate_left
   ·simp only [Act.put, List.setIfInBounds_toArray, List.set_cons_zero, List.set_cons_succ, i64_w, i32_w]
    rfl
   refine done_ (by kernel_rfl) ?_
   try go_wp2
   go_ret2
   exact ⟨_, _, by first | rfl | (simp [errW_none, errW_some] <;> rfl) | (simp [*, errW_none, errW_some] <;> rfl), rk HO322, rk HO325, by repeat (first | (with_reducible first | exact HB.out | apply below_alloc | apply pw_below_drewN | apply below_drew1 | refine below_set ?_ (IsS127.ge HI317.out)) | exact HB.out)⟩
  ·rw [if_neg c5] at H
   exact absurd H (by simp)
 ·replace c4 := Bool.eq_false_iff.mpr c4
  subst c4
  have H1 : ((spec_l20Net.f k t315 t319 0).bind fun bt326 => ((spec_l20State.f k t315 bt326.2.2 bt326.1 bt326.2.1 0).bind fun bt332 => ((spec_l20State.f k t315 bt332.2 bt326.1 bt326.2.1 7).bind fun bt336 => (some (bt332.1, bt336.1))))) = some (r1, r2) := by rw [if_neg (show ¬ (false = true) by decide)] at H; exact H
  clear H
  have H := H1
  clear H1
  replace H := Option.bind_eq_some_iff.mp H
  obtain ⟨⟨t326, t327, t330⟩, A140, H⟩ := H
  replace H : ((spec_l20State.f k t315 t330 t326 t327 0).bind fun bt332 => ((spec_l20State.f k t315 bt332.2 t326 t327 7).bind fun bt336 => (some (bt332.1, bt336.1)))) = some (r1, r2) := H
  have A14 := Aside0.mk A140
  clear A140
  replace H := Option.bind_eq_some_iff.mp H
  obtain ⟨⟨t332, t335⟩, A150, H⟩ := H
  replace H : ((spec_l20State.f k t315 t335 t326 t327 7).bind fun bt336 => (some (t332, bt336.1))) = some (r1, r2) := H
  have A15 := Aside0.mk A150
  clear A150
  replace H := Option.bind_eq_some_iff.mp H
  obtain ⟨⟨t336, t339⟩, A160, H⟩ := H
  replace H : (some (t332, t336)) = some (r1, r2) := H
  have A16 := Aside0.mk A160
  clear A160
  simp only [Option.some.injEq, Prod.mk.injEq] at H
  obtain ⟨rfl, rfl⟩ := H
  go_enter Tryd.func14, Tryd.ntmps14
  have TK0_ := Aside0.mk trivial; have TK1_ := Aside0.mk trivial; have TK2_ := Aside0.mk trivial; have TK3_ := Aside0.mk trivial
  try go_wp2_with (first | (clear TK0_; (with_reducible refine gate_callee (f := 44) rfl ?_); refine goesL_ (some 7) rfl rfl Tryd.func44 (by kernel_rfl) rfl #[.slice A0 l0.length c0] rfl (by (try simp only [List.map_toArray, List.map_cons, List.map_nil]); first | done | rfl | (simp only [List.length_drop, List.length_take]; rfl)) ?_; (with_reducible refine (spec_l20Open.calls _ _ l0 t315 t316 w _ ?side1 ?side2 ?side3 A2.out).mono ?_); (case side1 => exact bw); (case side2 => exact HR0.out); (case side3 => exact HC0.out); rintro e w17 ⟨g317, rfl, hi, hb, hb2⟩; refine ⟨_, rfl, ?_⟩; have n0_ := Aside0.mk (hb); have n1_ := Aside0.mk (hi); clear HB; have HB := n0_; have HI317 := n1_; clear n0_ n1_; (try clear hb); (try clear hb2); (try clear hk); (try clear hi)) | (clear TK1_; (with_reducible refine gate_callee (f := 50) rfl ?_); refine goesL_ (some 9) rfl rfl Tryd.func50 (by kernel_rfl) rfl #[.pointer (some ⟨g317, 0, none⟩), .int .i64 20] rfl (by (try simp only [List.map_toArray, List.map_cons, List.map_nil]); first | done | rfl | (simp only [List.length_drop, List.length_take]; rfl)) ?_; (with_reducible refine (spec_l20Rd_odd.calls k g317 t315 t316 20 false t319 w _ ?side1 ?side2 A3.out).mono ?_); (case side1 => repeat (first | (with_reducible first | exact HI317.out | apply IsS127.alloc | apply IsS127.drewN | apply IsS127.drew | apply IsS127.set_1) | exact HI317.out)); (case side2 => repeat (first | (with_reducible first | exact HB.out | apply below_alloc | apply pw_below_drewN | apply below_drew1 | refine below_set ?_ (IsS127.ge HI317.out)) | exact HB.out)); rintro e w18 ⟨rfl, hi, hb, hk⟩; refine ⟨_, rfl, ?_⟩; have n0_ := Aside0.mk (hb); have n1_ := Aside0.mk (hi); clear HB HI317; have HB := n0_; have HI317 := n1_; clear n0_ n1_; (try clear hb); (try clear hb2); (try clear hk); (try clear hi)) | (clear TK2_; (with_reducible refine gate_callee (f := 51) rfl ?_); refine goesL_ (some 13) rfl rfl Tryd.func51 (by kernel_rfl) rfl #[.pointer (some ⟨g317, 0, none⟩), .int .i64 0] rfl (by (try simp only [List.map_toArray, List.map_cons, List.map_nil]); first | done | rfl | (simp only [List.length_drop, List.length_take]; rfl)) ?_; (with_reducible refine (spec_l20Net.calls k g317 t315 t319 0 t326 t327 t330 w _ ?side1 ?side2 A14.out).mono ?_); (case side1 => repeat (first | (with_reducible first | exact HI317.out | apply IsS127.alloc | apply IsS127.drewN | apply IsS127.drew | apply IsS127.set_1) | exact HI317.out)); (case side2 => repeat (first | (with_reducible first | exact HB.out | apply below_alloc | apply pw_below_drewN | apply below_drew1 | refine below_set ?_ (IsS127.ge HI317.out)) | exact HB.out)); rintro e w19 ⟨v328, rfl, ho0, hi, hb, hk⟩; refine ⟨_, rfl, ?_⟩; have n0_ := Aside0.mk (Kd.R_lower ho0 (below_size (by repeat (first | (with_reducible first | exact HB.out | apply below_alloc | apply pw_below_drewN | apply below_drew1 | refine below_set ?_ (IsS127.ge HI317.out)) | exact HB.out)))); have n1_ := Aside0.mk (hb); have n2_ := Aside0.mk (hi); clear HB HI317; have HO329 := n0_; have HB := n1_; have HI317 := n2_; clear n0_ n1_ n2_; (try clear hb); (try clear hb2); (try clear hk); (try clear hi); (try clear ho0)) | (clear TK3_; (with_reducible refine gate_dst (N := 5) rfl ?_); refine box_event ?hg (N := 5) ?hd (cs := #[.int .i64 0, .slice none 0 0]) (t := 40) ?hr ?_; (case hd => rfl); (case hg => rfl); (case hr => first | (go_simp; done) | (go_simp; rfl)); intro gb331 hg w20 hbox hb; have n0_ := rB HO329 hb; have n1_ := Aside0.mk (IsS127.below (by repeat (first | (with_reducible first | exact HI317.out | apply IsS127.alloc | apply IsS127.drewN | apply IsS127.drew | apply IsS127.set_1) | exact HI317.out)) hb); have n2_ := Aside0.mk (below_step (by repeat (first | (with_reducible first | exact HB.out | apply below_alloc | apply pw_below_drewN | apply below_drew1 | refine below_set ?_ (IsS127.ge HI317.out)) | exact HB.out)) hb); have n3_ := Aside0.mk (hbox); have n4_ := Aside0.mk ((by rw [hg]; exact (below_size (by repeat (first | (with_reducible first | exact HB.out | apply below_alloc | apply pw_below_drewN | apply below_drew1 | refine below_set ?_ (IsS127.ge HI317.out)) | exact HB.out))) : w.heap.size ≤ gb331)); have n5_ := Aside0.mk ((by rw [hg]; exact (below_size (by repeat (first | (with_reducible first | exact HB.out | apply below_alloc | apply pw_below_drewN | apply below_drew1 | refine below_set ?_ (IsS127.ge HI317.out)) | exact HB.out))) : w.heap.size ≤ gb331)); have n6_ := Aside0.mk ((by rw [hg]; exact Nat.ne_of_lt (IsS127.lt (show IsS127 w _ g317 t315 t330 from by repeat (first | (with_reducible first | exact HI317.out | apply IsS127.alloc | apply IsS127.drewN | apply IsS127.drew | apply IsS127.set_1) | exact HI317.out))) : g317 ≠ gb331)); have n7_ := Aside0.mk ((by rw [hg]; exact Nat.ne_of_gt (IsS127.lt (show IsS127 w _ g317 t315 t330 from by repeat (first | (with_reducible first | exact HI317.out | apply IsS127.alloc | apply IsS127.drewN | apply IsS127.drew | apply IsS127.set_1) | exact HI317.out))) : gb331 ≠ g317)); clear HO329 HI317 HB; have HO329 := n0_; have HI317 := n1_; have HB := n2_; have BK331 := n3_; have GW331 := n4_; have GE331 := n5_; have NB317_331 := n6_; have NB331_317 := n7_; clear n0_ n1_ n2_ n3_ n4_ n5_ n6_ n7_; clear hb hbox hg; have hnb21 := NB331_317.out; have hnc21 := NB317_331.out; have hcz22_0 : w20.cell? ⟨gb331, 0, none⟩ = some (.int .i64 0) := (blk_cell BK331.out 0).trans rfl; have hcz22_1 : w20.cell? ⟨gb331, 1, none⟩ = some (.slice none 0 0) := (blk_cell BK331.out 1).trans rfl; have hfz22_0 := blk_frozen BK331.out 0; have hfz22_1 := blk_frozen BK331.out 1; obtain ⟨Ao23, co23, eo23⟩ := Kd.R_slice HO329.out; subst eo23))
  have n0_ : Aside0 (Kd.R k42 42 ((w20.setCell ⟨gb331, 0, none⟩ (.int .i64 t326)).setCell ⟨gb331, 1, none⟩ (.slice Ao23 t327.length co23)) w.heap.size (fun _ => True) (.slice Ao23 t327.length co23) t327) := ⟨by (with_reducible repeat (first | apply Kd.R_alloc | apply Kd.R_drewN | apply Kd.R_drew)); exact Kd.R_mono (Kd.R_far (p := ⟨gb331, 1, none⟩) (Kd.R_far (p := ⟨gb331, 0, none⟩) (Kd.R_types HO329.out BK331.out (by decide)) (fun _ hk => by first | exact hk.2 | grind) (.int .i64 t326)) (fun _ hk => by first | exact hk.2 | grind) (.slice Ao23 t327.length co23)) (fun _ hk => trivial)⟩
  have n1_ : Aside0 (((w20.setCell ⟨gb331, 0, none⟩ (.int .i64 t326)).setCell ⟨gb331, 1, none⟩ (.slice Ao23 t327.length co23)).heap[gb331]? = some (.cells #[.int .i64 t326, .slice Ao23 t327.length co23] 40 (0, 0))) := ⟨by (with_reducible repeat (first | refine blk_drewN ?_ _ | refine blk_drew ?_ | refine blk_alloc ?_ _)); refine blk_put (cs := #[.int .i64 t326, .slice none 0 0]) ?_ 1 _ rfl; (with_reducible repeat (first | refine blk_drewN ?_ _ | refine blk_drew ?_ | refine blk_alloc ?_ _)); refine blk_put (cs := #[.int .i64 0, .slice none 0 0]) ?_ 0 _ rfl; (with_reducible repeat (first | refine blk_drewN ?_ _ | refine blk_drew ?_ | refine blk_alloc ?_ _)); exact BK331.out⟩
  have n2_ : Aside0 (IsS127 w ((w20.setCell ⟨gb331, 0, none⟩ (.int .i64 t326)).setCell ⟨gb331, 1, none⟩ (.slice Ao23 t327.length co23)) g317 t315 t330) := ⟨by repeat (first | (with_reducible first | exact HI317.out | apply IsS127.alloc | apply IsS127.drewN | apply IsS127.drew | apply IsS127.set_1 | refine IsS127.far ?_ NB317_331.out _) | exact HI317.out)⟩
  have n3_ : Aside0 (Below w.heap.size w ((w20.setCell ⟨gb331, 0, none⟩ (.int .i64 t326)).setCell ⟨gb331, 1, none⟩ (.slice Ao23 t327.length co23))) := ⟨by repeat (first | (with_reducible first | exact HB.out | apply below_alloc | apply pw_below_drewN | apply below_drew1 | refine below_set ?_ (IsS127.ge HI317.out) | refine below_set ?_ GE331.out) | exact HB.out)⟩
  (try clear HO329)
  (try clear BK331)
  (try clear HI317)
  (try clear HB)
  generalize ((w20.setCell ⟨gb331, 0, none⟩ (.int .i64 t326)).setCell ⟨gb331, 1, none⟩ (.slice Ao23 t327.length co23)) = w24 at n0_ n1_ n2_ n3_ ⊢
  have HO329 := n0_
  have BK331 := n1_
  have HI317 := n2_
  have HB := n3_
  clear n0_ n1_ n2_ n3_
  have n0_ := Aside0.mk (Kd.R_drew HO329.out)
  have n1_ := Aside0.mk (blk_drew BK331.out)
  have n2_ := Aside0.mk (IsS127.drew HI317.out)
  have n3_ := Aside0.mk (below_drew1 HB.out)
  clear HO329
  clear BK331
  clear HI317
  clear HB
  have HO329 := n0_
  have BK331 := n1_
  have HI317 := n2_
  have HB := n3_
  clear n0_ n1_ n2_ n3_
  refine start_ (n := 8) (S := fun w' => w'.cell? ⟨gb331, 0, none⟩ = some (.int .i64 t326) ∧ w'.cell? ⟨gb331, 1, none⟩ = some (.slice Ao23 t327.length co23)) (ds := []) (bz 8 0) (by kernel_rfl) rfl rfl ⟨(blk_cell BK331.out 0).trans rfl, (blk_cell BK331.out 1).trans rfl⟩ (fun hHeld => ?_); refine with_tabW spec_DrawOrderTo.tab5 spec_DrawOrderTo.bits5 (fun HT_ HW_ => ?_)
  generalize w24.drew = w25 at HO329 BK331 HI317 HB hHeld ⊢
  refine pure_ (i := 0) (N := some 14) (v := ?_) (a' := ?_) (bz 8 1) rfl rfl (any_of HT_.out (by kernel_rfl)) (fun _ _ _ h => h) (Or.inl ⟨by rfl, ?_⟩) ?_ ?_
  rotate_left
  ·intro w'
   go_simp
   with_reducible rfl
  rotate_left
  ·simp only [Act.put, List.setIfInBounds_toArray, List.set_cons_zero, List.set_cons_succ, i64_w, i32_w]
   rfl
  refine pure_ (i := 3) (N := some 17) (v := ?_) (a' := ?_) (bz 8 9) rfl rfl (any_of HT_.out (by kernel_rfl)) (fun _ _ _ h => h) (Or.inl ⟨by rfl, ?_⟩) ?_ ?_
  rotate_left
  ·intro w'
   go_simp
   with_reducible rfl
  rotate_left
  ·simp only [Act.put, List.setIfInBounds_toArray, List.set_cons_zero, List.set_cons_succ, i64_w, i32_w]
   rfl
  refine take_ (i := 1) (N := some 15) (v := ?_) (a' := ?_) (bz 8 11) rfl rfl (take_ofW HT_.out HW_.out (by kernel_rfl)) (fun _ _ _ h => h) (Or.inl ⟨by rfl, ?_⟩) hHeld ?_ ?_
  rotate_left
  ·rintro w' ⟨s0, s1⟩
   go_simp
   with_reducible rfl
  rotate_left
  ·simp only [Act.put, List.setIfInBounds_toArray, List.set_cons_zero, List.set_cons_succ, i64_w, i32_w]
   rfl
  refine take_ (i := 4) (N := some 18) (v := ?_) (a' := ?_) (bz 8 27) rfl rfl (take_ofW HT_.out HW_.out (by kernel_rfl)) (fun _ _ _ h => h) (Or.inl ⟨by rfl, ?_⟩) hHeld ?_ ?_
  rotate_left
  ·rintro w' ⟨s0, s1⟩
   go_simp
   with_reducible rfl
  rotate_left
  ·simp only [Act.put, List.setIfInBounds_toArray, List.set_cons_zero, List.set_cons_succ, i64_w, i32_w]
   rfl
  refine one_ (i := 2) (N := some 16) (bz 8 31) rfl rfl (one_of HT_.out (by kernel_rfl)) (by decide) (fun K hK => ?_)
  refine goes_ Tryd.func52 (by kernel_rfl) rfl #[.pointer (some ⟨g317, 0, none⟩), .agg #[.int .i64 t326, .slice Ao23 t327.length co23], .int .i64 0] (by rfl) rfl rfl (by (try simp only [List.map_toArray, List.map_cons, List.map_nil]); first | done | rfl | (simp only [List.length_drop, List.length_take]; rfl)) ?_
  with_reducible refine (spec_l20State.calls k g317 t315 t330 t326 _ _ t327 0 t332 t335 w _ ?side1 ?side2 ?side3 ?side4 A15.out).mono ?_
  (case side1 => repeat (first | (with_reducible first | exact HI317.out | apply IsS127.alloc | apply IsS127.drewN | apply IsS127.drew | apply IsS127.set_1 | refine IsS127.far ?_ NB317_331.out _) | exact HI317.out))
  (case side2 => repeat (first | (with_reducible first | exact HB.out | apply below_alloc | apply pw_below_drewN | apply below_drew1 | refine below_set ?_ (IsS127.ge HI317.out) | refine below_set ?_ GE331.out) | exact HB.out))
  (case side3 => exact Kd.C_foot_own (IsS127.apart (show IsS127 w _ g317 t315 t330 from by repeat (first | (with_reducible first | exact HI317.out | apply IsS127.alloc | apply IsS127.drewN | apply IsS127.drew | apply IsS127.set_1 | refine IsS127.far ?_ NB317_331.out _) | exact HI317.out)) (rk HO329) (by decide)) (fun _ h_ => h_.2))
  (case side4 => exact (Kd.R_reads' HO329.out).2.1)
  rintro e w26 ⟨v333, rfl, ho0, hi, hb, hk⟩
  refine ⟨_, rfl, ?_⟩
  have n0_ := Aside0.mk (Kd.R_mono (Kd.R_keep (IsS127.apart (show IsS127 w _ g317 t315 t330 from by repeat (first | (with_reducible first | exact HI317.out | apply IsS127.alloc | apply IsS127.drewN | apply IsS127.drew | apply IsS127.set_1 | refine IsS127.far ?_ NB317_331.out _) | exact HI317.out)) (rk HO329) (by decide)) hk (fun _ h => h.2)) (fun _ h => h.1))
  have n1_ := Aside0.mk (KeepBut.blk hk (g' := gb331) (o := .cells #[.int .i64 t326, .slice Ao23 t327.length co23] 40 (0, 0)) (bk BK331) NB331_317.out (by simp))
  have n2_ := Aside0.mk (Kd.R_lower ho0 (below_size (by repeat (first | (with_reducible first | exact HB.out | apply below_alloc | apply pw_below_drewN | apply below_drew1 | refine below_set ?_ (IsS127.ge HI317.out) | refine below_set ?_ GE331.out) | exact HB.out))))
  have n3_ := Aside0.mk (hb)
  have n4_ := Aside0.mk (hi)
  clear HO329
  clear BK331
  clear HB
  clear HI317
  have HO329 := n0_
  have BK331 := n1_
  have HO334 := n2_
  have HB := n3_
  have HI317 := n4_
  clear n0_ n1_ n2_ n3_ n4_
  (try clear hb)
  (try clear hb2)
  (try clear hk)
  (try clear hi)
  (try clear ho0)
  refine hK.out _ _ ⟨(blk_cell BK331.out 0).trans rfl, (blk_cell BK331.out 1).trans rfl⟩ (fun hHeld => ?_)
  clear hK K
  refine norm_ (a' := ?_) ?_ ?_
  rotate_left
  ·show Act.put _ (some 16) _ = _
   simp only [Act.put, List.setIfInBounds_toArray, List.set_cons_zero, List.set_cons_succ, i64_w, i32_w]
   rfl
  refine one_ (i := 5) (N := some 19) (bz 8 63) rfl rfl (one_of HT_.out (by kernel_rfl)) (by decide) (fun K hK => ?_)
  refine goes_ Tryd.func52 (by kernel_rfl) rfl #[.pointer (some ⟨g317, 0, none⟩), .agg #[.int .i64 t326, .slice Ao23 t327.length co23], .int .i64 7] (by rfl) rfl rfl (by (try simp only [List.map_toArray, List.map_cons, List.map_nil]); first | done | rfl | (simp only [List.length_drop, List.length_take]; rfl)) ?_
  with_reducible refine (spec_l20State.calls k g317 t315 t335 t326 _ _ t327 7 t336 t339 w _ ?side1 ?side2 ?side3 ?side4 A16.out).mono ?_
  (case side1 => repeat (first | (with_reducible first | exact HI317.out | apply IsS127.alloc | apply IsS127.drewN | apply IsS127.drew | apply IsS127.set_1 | refine IsS127.far ?_ NB317_331.out _) | exact HI317.out))
  (case side2 => repeat (first | (with_reducible first | exact HB.out | apply below_alloc | apply pw_below_drewN | apply below_drew1 | refine below_set ?_ (IsS127.ge HI317.out) | refine below_set ?_ GE331.out) | exact HB.out))
  (case side3 => exact Kd.C_foot_own (IsS127.apart (show IsS127 w _ g317 t315 t335 from by repeat (first | (with_reducible first | exact HI317.out | apply IsS127.alloc | apply IsS127.drewN | apply IsS127.drew | apply IsS127.set_1 | refine IsS127.far ?_ NB317_331.out _) | exact HI317.out)) (rk HO329) (by decide)) (fun _ h_ => h_.2))
  (case side4 => exact (Kd.R_reads' HO329.out).2.1)
  rintro e w27 ⟨v337, rfl, ho0, hi, hb, hk⟩
  refine ⟨_, rfl, ?_⟩
  have n0_ := Aside0.mk (Kd.R_mono (Kd.R_keep (IsS127.apart (show IsS127 w _ g317 t315 t335 from by repeat (first | (with_reducible first | exact HI317.out | apply IsS127.alloc | apply IsS127.drewN | apply IsS127.drew | apply IsS127.set_1 | refine IsS127.far ?_ NB317_331.out _) | exact HI317.out)) (rk HO329) (by decide)) hk (fun _ h => h.2)) (fun _ h => h.1))
  have n1_ := Aside0.mk (KeepBut.blk hk (g' := gb331) (o := .cells #[.int .i64 t326, .slice Ao23 t327.length co23] 40 (0, 0)) (bk BK331) NB331_317.out (by simp))
  have n2_ := Aside0.mk (Kd.R_mono (Kd.R_told (Kd.R_oldK (IsS127.apart (show IsS127 w _ g317 t315 t335 from by repeat (first | (with_reducible first | exact HI317.out | apply IsS127.alloc | apply IsS127.drewN | apply IsS127.drew | apply IsS127.set_1 | refine IsS127.far ?_ NB317_331.out _) | exact HI317.out)) (rk HO334) (by decide)) hk) (Kd.R_base ho0)) (fun _ h_ => h_.1))
  have n3_ := Aside0.mk (Kd.R_lower (Kd.R_new' ho0 (Kd.R_lt (rk HO334))) (below_size (by repeat (first | (with_reducible first | exact HB.out | apply below_alloc | apply pw_below_drewN | apply below_drew1 | refine below_set ?_ (IsS127.ge HI317.out) | refine below_set ?_ GE331.out) | exact HB.out))))
  have n4_ := Aside0.mk (hb)
  have n5_ := Aside0.mk (hi)
  clear HO329
  clear BK331
  clear HO334
  clear HB
  clear HI317
  have HO329 := n0_
  have BK331 := n1_
  have HO334 := n2_
  have HO338 := n3_
  have HB := n4_
  have HI317 := n5_
  clear n0_ n1_ n2_ n3_ n4_ n5_
  (try clear hb)
  (try clear hb2)
  (try clear hk)
  (try clear hi)
  (try clear ho0)
  refine hK.out _ _ ⟨(blk_cell BK331.out 0).trans rfl, (blk_cell BK331.out 1).trans rfl⟩ (fun hHeld => ?_)
  clear hK K
  refine norm_ (a' := ?_) ?_ ?_
  rotate_left
  ·show Act.put _ (some 19) _ = _
   simp only [Act.put, List.setIfInBounds_toArray, List.set_cons_zero, List.set_cons_succ, i64_w, i32_w]
   rfl
  refine pure_ (i := 6) (N := some 2) (v := ?_) (a' := ?_) (bz 8 127) rfl rfl (any_of HT_.out (by kernel_rfl)) (fun _ _ _ h => h) (Or.inl ⟨by rfl, ?_⟩) ?_ ?_
  rotate_left
  ·intro w'
   go_simp
   with_reducible rfl
  rotate_left
  ·simp only [Act.put, List.setIfInBounds_toArray, List.set_cons_zero, List.set_cons_succ, i64_w, i32_w]
   rfl
  refine pure_ (i := 7) (N := some 3) (v := ?_) (a' := ?_) (bz 8 255) rfl rfl (any_of HT_.out (by kernel_rfl)) (fun _ _ _ h => h) (Or.inl ⟨by rfl, ?_⟩) ?_ ?_
  rotate_left
  ·intro w'
   go_simp
   with_reducible rfl
  rotate_left
  ·simp only [Act.put, List.setIfInBounds_toArray, List.set_cons_zero, List.set_cons_succ, i64_w, i32_w]
   rfl
  refine done_ (done_of HT_.out (by kernel_rfl)) ?_
  try go_wp2
  go_ret2
  exact ⟨_, _, by first | rfl | (simp [errW_none, errW_some] <;> rfl) | (simp [*, errW_none, errW_some] <;> rfl), by (with_reducible repeat (first | apply Kd.R_alloc | apply Kd.R_drewN | apply Kd.R_drew)); exact Kd.R_mono HO334.out (fun _ hk => by first | exact hk.2 | grind), by (with_reducible repeat (first | apply Kd.R_alloc | apply Kd.R_drewN | apply Kd.R_drew)); exact Kd.R_mono HO338.out (fun _ hk => by first | exact hk.2 | grind), by repeat (first | (with_reducible first | exact HB.out | apply below_alloc | apply pw_below_drewN | apply below_drew1 | refine below_set ?_ (IsS127.ge HI317.out) | refine below_set ?_ GE331.out) | exact HB.out)⟩

end Go.Proofs.YtihmidnjiaomhaaDoor.G
