-- Printed by wip/gen.py of this session's repo, over the kit's print.py. Not trusted: Lean checks it.
import Derived.Test.YtgoiihfojhpcmaaGx0
import Derived.Test.YtgoiihfojhpcmaaSq
import Derived.Test.YtgoiihfojhpcmaaGx2
import Derived.Test.YtgoiihfojhpcmaaGx5
namespace Go.Proofs.Ytgoiihfojhpcmaa.G
open Go.RowKit Go.Proofs.YtgoiihfojhpcmaaW.PrintWords Go.Proofs.YtgoiihfojhpcmaaW.PrintLast Go.Proofs.YtgoiihfojhpcmaaW.PrintMore Go.Proofs.Ytgoiihfojhpcmaa.Sq
attribute [local go_sem] max2_int min2_int max_two min_two max_three min_three max_four min_four   -- for this text's walks alone
set_option linter.unusedVariables false
set_option linter.unusedSimpArgs false

/-! ### spec_WorkValid: function 39 -/
mutual
def spec_WorkValid.j0 : Nat → Bool → List Bool → List Bool → List (S112) → Option (Bool)
 | 0, _, _, _, _ => none
 | k + 1, x25, x188000, x188001, x188002 => if x25 = true then (some false) else (spec_WorkValid.l0 k 0 x188000 x188001 x188002)
def spec_WorkValid.l0 : Nat → Int → List Bool → List Bool → List (S112) → Option (Bool)
 | 0, _, _, _, _ => none
 | k + 1, x3, x188000, x188001, x188002 => if x3 < (x188000.length : Int) then (if 0 ≤ x3 then (if rdOf false x188000 x3 = true then (if x3 < (x188001.length : Int) then (if rdOf false x188001 x3 = true then (some false) else (spec_WorkValid.l0 k (wrap64 (x3 + 1)) x188000 x188001 x188002)) else (none)) else (spec_WorkValid.l0 k (wrap64 (x3 + 1)) x188000 x188001 x188002)) else (none)) else (spec_WorkValid.l1 k 0 x188000 x188001 x188002)
def spec_WorkValid.l1 : Nat → Int → List Bool → List Bool → List (S112) → Option (Bool)
 | 0, _, _, _, _ => none
 | k + 1, x4, x188000, x188001, x188002 => if x4 < (x188002.length : Int) then (if 0 ≤ x4 then ((spec_l1In.f ((rd_T112 x188002 x4).f0) 0 9).bind fun t193 => (if t193 = true then ((spec_l1In.f ((rd_T112 x188002 x4).f1) 0 (wrap64 ((x188000.length : Int) - 1))).bind fun t194 => (if t194 = true then (if 0 ≤ ((rd_T112 x188002 x4).f1) then (if ((rd_T112 x188002 x4).f1) < (x188001.length : Int) then (if (rdOf false x188001 ((rd_T112 x188002 x4).f1) = true) then ((spec_l12Find.f k x188002 ((rd_T112 x188002 x4).f0) ((rd_T112 x188002 x4).f1)).bind fun t196 => (if t196 < x4 then (some false) else (spec_WorkValid.l1 k (wrap64 (x4 + 1)) x188000 x188001 x188002))) else (some false)) else (none)) else (none)) else (some false))) else (some false))) else (none)) else (some true)
end
def spec_WorkValid.f (k : Nat) (l0_0 : List Bool) (l0_1 : List Bool) (l0_2 : List (S112)) : Option (Bool) := (spec_l1In.f (l0_0.length : Int) 1 10).bind fun t188 => (if t188 = true then (if (l0_0.length : Int) = (l0_1.length : Int) then (spec_WorkValid.j0 k (decide ((l0_2.length : Int) > 6)) l0_0 l0_1 l0_2) else (spec_WorkValid.j0 k true l0_0 l0_1 l0_2)) else (spec_WorkValid.j0 k true l0_0 l0_1 l0_2))
theorem spec_WorkValid.mono_l : ∀ k, (∀ y0 y1 y2 y3, LeO (spec_WorkValid.j0 k y0 y1 y2 y3) (spec_WorkValid.j0 (k + 1) y0 y1 y2 y3)) ∧ (∀ y0 y1 y2 y3, LeO (spec_WorkValid.l0 k y0 y1 y2 y3) (spec_WorkValid.l0 (k + 1) y0 y1 y2 y3)) ∧ (∀ y0 y1 y2 y3, LeO (spec_WorkValid.l1 k y0 y1 y2 y3) (spec_WorkValid.l1 (k + 1) y0 y1 y2 y3))
 | 0 => ⟨fun _ _ _ _ r h => by simp [spec_WorkValid.j0] at h, fun _ _ _ _ r h => by simp [spec_WorkValid.l0] at h, fun _ _ _ _ r h => by simp [spec_WorkValid.l1] at h⟩
 | k + 1 => by
  obtain ⟨ih0, ih1, ih2⟩ := spec_WorkValid.mono_l k
  refine ⟨?_, ?_, ?_⟩
  ·intro y0 y1 y2 y3
   unfold spec_WorkValid.j0
   repeat' first
   | (with_reducible exact ih0 _ _ _ _)
   | (with_reducible exact ih1 _ _ _ _)
   | (with_reducible exact ih2 _ _ _ _)
   | (with_reducible exact spec_l12Find.mono _ _ _ _)
   | (with_reducible exact LeO.refl _)
   | (with_reducible exact LeO.none _)
   | (with_reducible refine LeO.ite ?_ ?_)
   | (with_reducible refine LeO.bind ?_ (fun _ => ?_))
   | exact ih0 _ _ _ _
   | exact ih1 _ _ _ _
   | exact ih2 _ _ _ _
   | exact spec_l12Find.mono _ _ _ _
   | exact LeO.none _
   | refine LeO.ite ?_ ?_
   | refine LeO.bind ?_ (fun _ => ?_)
  ·intro y0 y1 y2 y3
   unfold spec_WorkValid.l0
   repeat' first
   | (with_reducible exact ih0 _ _ _ _)
   | (with_reducible exact ih1 _ _ _ _)
   | (with_reducible exact ih2 _ _ _ _)
   | (with_reducible exact spec_l12Find.mono _ _ _ _)
   | (with_reducible exact LeO.refl _)
   | (with_reducible exact LeO.none _)
   | (with_reducible refine LeO.ite ?_ ?_)
   | (with_reducible refine LeO.bind ?_ (fun _ => ?_))
   | exact ih0 _ _ _ _
   | exact ih1 _ _ _ _
   | exact ih2 _ _ _ _
   | exact spec_l12Find.mono _ _ _ _
   | exact LeO.none _
   | refine LeO.ite ?_ ?_
   | refine LeO.bind ?_ (fun _ => ?_)
  ·intro y0 y1 y2 y3
   unfold spec_WorkValid.l1
   repeat' first
   | (with_reducible exact ih0 _ _ _ _)
   | (with_reducible exact ih1 _ _ _ _)
   | (with_reducible exact ih2 _ _ _ _)
   | (with_reducible exact spec_l12Find.mono _ _ _ _)
   | (with_reducible exact LeO.refl _)
   | (with_reducible exact LeO.none _)
   | (with_reducible refine LeO.ite ?_ ?_)
   | (with_reducible refine LeO.bind ?_ (fun _ => ?_))
   | exact ih0 _ _ _ _
   | exact ih1 _ _ _ _
   | exact ih2 _ _ _ _
   | exact spec_l12Find.mono _ _ _ _
   | exact LeO.none _
   | refine LeO.ite ?_ ?_
   | refine LeO.bind ?_ (fun _ => ?_)
theorem spec_WorkValid.mono : ∀ a0 a1 a2 k, LeO (spec_WorkValid.f k a0 a1 a2) (spec_WorkValid.f (k + 1) a0 a1 a2) := by
 intro a0 a1 a2 k
 obtain ⟨ih0, ih1, ih2⟩ := spec_WorkValid.mono_l k
 unfold spec_WorkValid.f
 repeat' first
   | (with_reducible exact ih0 _ _ _ _)
   | (with_reducible exact ih1 _ _ _ _)
   | (with_reducible exact ih2 _ _ _ _)
   | (with_reducible exact spec_l12Find.mono _ _ _ _)
   | (with_reducible exact LeO.refl _)
   | (with_reducible exact LeO.none _)
   | (with_reducible refine LeO.ite ?_ ?_)
   | (with_reducible refine LeO.bind ?_ (fun _ => ?_))
   | exact ih0 _ _ _ _
   | exact ih1 _ _ _ _
   | exact ih2 _ _ _ _
   | exact spec_l12Find.mono _ _ _ _
   | exact LeO.none _
   | refine LeO.ite ?_ ?_
   | refine LeO.bind ?_ (fun _ => ?_)
set_option maxHeartbeats 8000000 in
set_option maxRecDepth 100000 in
theorem spec_WorkValid.calls (k : Nat) (A0_0 : Option Addr) (c0_0 : Nat) (l0_0 : List Bool) (A0_1 : Option Addr) (c0_1 : Nat) (l0_1 : List Bool) (A0_2 : Option Addr) (c0_2 : Nat) (l0_2 : List (S112)) (r : Bool) (w : World) (hr0_0 : Kd.C Kd.bool w A0_0 l0_0.length l0_0) (hc0_0 : l0_0.length ≤ c0_0) (hr0_1 : Kd.C Kd.bool w A0_1 l0_1.length l0_1) (hc0_1 : l0_1.length ≤ c0_1) (hr0_2 : Kd.C k112 w A0_2 l0_2.length l0_2) (hc0_2 : l0_2.length ≤ c0_2) (h : spec_WorkValid.f k l0_0 l0_1 l0_2 = some r) :
  Calls Try.prog 39 #[.agg #[.slice A0_0 l0_0.length c0_0, .slice A0_1 l0_1.length c0_1, .slice A0_2 l0_2.length c0_2]] w fun e w' => e = .returned (.bool r) ∧ Below w.heap.size w w' := by
 have hu73 := Try.underlying73
 have hu112 := Try.underlying112
 have HR0_0 := Aside0.mk hr0_0
 have HC0_0 := Aside0.mk hc0_0
 clear hr0_0 hc0_0
 have HR0_1 := Aside0.mk hr0_1
 have HC0_1 := Aside0.mk hc0_1
 clear hr0_1 hc0_1
 have HR0_2 := Aside0.mk hr0_2
 have HC0_2 := Aside0.mk hc0_2
 clear hr0_2 hc0_2
 have HB := Aside0.mk (Below.refl w.heap.size w)
 have H : ((spec_l1In.f (l0_0.length : Int) 1 10).bind fun t188 => (if t188 = true then (if (l0_0.length : Int) = (l0_1.length : Int) then (spec_WorkValid.j0 k (decide ((l0_2.length : Int) > 6)) l0_0 l0_1 l0_2) else (spec_WorkValid.j0 k true l0_0 l0_1 l0_2)) else (spec_WorkValid.j0 k true l0_0 l0_1 l0_2))) = some r := h
 clear h
 have HC2 := Aside0.mk H
 clear H
 go_enter Try.func39, Try.ntmps39
 go_upto_region 1 with (first | ((with_reducible refine gate_dst (N := 1) rfl ?_); (try (refine gate_guard (by rfl) ?_; dsimp only)); refine box_event ?hg (N := 1) ?hd (cs := #[.slice A0_0 l0_0.length c0_0, .slice A0_1 l0_1.length c0_1, .slice A0_2 l0_2.length c0_2]) (t := 73) ?hr ?_; (case hd => rfl); (case hg => rfl); (case hr => first | (go_simp; done) | (go_simp; rfl)); intro gb187 hg w3 hbox hb; have n0_ := Aside0.mk (below_step bw hb); have n1_ := Aside0.mk (hbox); have n2_ := Aside0.mk ((by rw [hg]; exact (below_size bw) : w.heap.size ≤ gb187)); have n3_ := Aside0.mk ((by rw [hg]; exact (below_size bw) : w.heap.size ≤ gb187)); clear HB; have HB := n0_; have BK187 := n1_; have GW187 := n2_; have GE187 := n3_; clear n0_ n1_ n2_ n3_; clear hb hbox hg))
 (try simp only [Act.put, List.setIfInBounds_toArray, List.set_cons_zero, List.set_cons_succ])
 go_cut [25] (fun v25 wc => ∃ (kq : Nat) (x25_1 : Bool), v25 = .bool x25_1 ∧ Aside0 (spec_WorkValid.j0 kq x25_1 l0_0 l0_1 l0_2 = some r) ∧ Aside0 (kq ≤ k) ∧ Aside0 (wc.heap[gb187]? = some (.cells #[(.slice A0_0 l0_0.length c0_0), (.slice A0_1 l0_1.length c0_1), (.slice A0_2 l0_2.length c0_2)] 73 (0, 0))) ∧ Aside0 (Below w.heap.size w wc))
 case first =>
  have H := HC2.out
  clear HC2
  replace H := Option.bind_eq_some_iff.mp H
  obtain ⟨t188, A40, H⟩ := H
  replace H : (if t188 = true then (if (l0_0.length : Int) = (l0_1.length : Int) then (spec_WorkValid.j0 k (decide ((l0_2.length : Int) > 6)) l0_0 l0_1 l0_2) else (spec_WorkValid.j0 k true l0_0 l0_1 l0_2)) else (spec_WorkValid.j0 k true l0_0 l0_1 l0_2)) = some r := H
  have A4 := Aside0.mk A40
  clear A40
  by_cases c5 : t188 = true
  ·subst c5
   have H1 : (if (l0_0.length : Int) = (l0_1.length : Int) then (spec_WorkValid.j0 k (decide ((l0_2.length : Int) > 6)) l0_0 l0_1 l0_2) else (spec_WorkValid.j0 k true l0_0 l0_1 l0_2)) = some r := by rw [if_pos rfl] at H; exact H
   clear H
   have H := H1
   clear H1
   by_cases c6 : (l0_0.length : Int) = (l0_1.length : Int)
   ·rw [if_pos c6] at H
    have c6b0 : ((l0_0.length : Int) == (l0_1.length : Int)) = true := beq_iff_eq.mpr c6
    have c6b1 : ((l0_0.length : Int) != (l0_1.length : Int)) = false := bne_eq_false_iff_eq.mpr c6
    have c6b2 : (l0_0.length == l0_1.length) = true := by first | simpa using c6 | (simp at c6 ⊢; omega)
    clear c6
    (first | rw [c6b0] | (simp only [i64_w, i32_w]; rw [c6b0]) | skip)
    have H' := Aside0.mk H
    clear H
    have hcz7_0 : w3.cell? ⟨gb187, 0, none⟩ = some (.slice A0_0 l0_0.length c0_0) := (blk_cell BK187.out 0).trans rfl
    have hcz7_1 : w3.cell? ⟨gb187, 1, none⟩ = some (.slice A0_1 l0_1.length c0_1) := (blk_cell BK187.out 1).trans rfl
    have hcz7_2 : w3.cell? ⟨gb187, 2, none⟩ = some (.slice A0_2 l0_2.length c0_2) := (blk_cell BK187.out 2).trans rfl
    have hfz7_0 := blk_frozen BK187.out 0
    have hfz7_1 := blk_frozen BK187.out 1
    have hfz7_2 := blk_frozen BK187.out 2
    go_wp2_with (first | ((with_reducible refine gate_callee (f := 77) rfl ?_); refine goesL_ (some 9) rfl rfl Try.func77 (by kernel_rfl) rfl #[.int .i64 (l0_0.length : Int), .int .i64 1, .int .i64 10] rfl (by (try simp only [List.map_toArray, List.map_cons, List.map_nil]); first | done | rfl | (simp only [List.length_drop, List.length_take]; rfl)) ?_; (with_reducible refine (spec_l1In.calls (l0_0.length : Int) 1 10 true _ A4.out).mono ?_); rintro e w' ⟨rfl, ⟨nd, rfl⟩⟩; refine ⟨_, rfl, ?_⟩))
    go_meet
    case rel => exact ⟨_, (decide ((l0_2.length : Int) > 6)), (by first | rfl | (simp; done) | (simp [*]; done)), H', ⟨by first | omega | exact Nat.le_refl _⟩, ⟨bk BK187⟩, ⟨bw⟩⟩
   ·rw [if_neg c6] at H
    have c6b0 : ((l0_0.length : Int) == (l0_1.length : Int)) = false := beq_eq_false_iff_ne.mpr c6
    have c6b1 : ((l0_0.length : Int) != (l0_1.length : Int)) = true := bne_iff_ne.mpr c6
    have c6b2 : (l0_0.length == l0_1.length) = false := by first | simpa using c6 | (simp at c6 ⊢; omega)
    (first | rw [c6b0] | (simp only [i64_w, i32_w]; rw [c6b0]) | skip)
    have H' := Aside0.mk H
    clear H
    have hcz8_0 : w3.cell? ⟨gb187, 0, none⟩ = some (.slice A0_0 l0_0.length c0_0) := (blk_cell BK187.out 0).trans rfl
    have hcz8_1 : w3.cell? ⟨gb187, 1, none⟩ = some (.slice A0_1 l0_1.length c0_1) := (blk_cell BK187.out 1).trans rfl
    have hcz8_2 : w3.cell? ⟨gb187, 2, none⟩ = some (.slice A0_2 l0_2.length c0_2) := (blk_cell BK187.out 2).trans rfl
    have hfz8_0 := blk_frozen BK187.out 0
    have hfz8_1 := blk_frozen BK187.out 1
    have hfz8_2 := blk_frozen BK187.out 2
    go_wp2_with (first | ((with_reducible refine gate_callee (f := 77) rfl ?_); refine goesL_ (some 9) rfl rfl Try.func77 (by kernel_rfl) rfl #[.int .i64 (l0_0.length : Int), .int .i64 1, .int .i64 10] rfl (by (try simp only [List.map_toArray, List.map_cons, List.map_nil]); first | done | rfl | (simp only [List.length_drop, List.length_take]; rfl)) ?_; (with_reducible refine (spec_l1In.calls (l0_0.length : Int) 1 10 true _ A4.out).mono ?_); rintro e w' ⟨rfl, ⟨nd, rfl⟩⟩; refine ⟨_, rfl, ?_⟩))
    go_meet
    case rel => exact ⟨_, (true), (by first | rfl | (simp; done) | (simp [*]; done)), H', ⟨by first | omega | exact Nat.le_refl _⟩, ⟨bk BK187⟩, ⟨bw⟩⟩
  ·replace c5 := Bool.eq_false_iff.mpr c5
   subst c5
   have H1 : (spec_WorkValid.j0 k true l0_0 l0_1 l0_2) = some r := by rw [if_neg (show ¬ (false = true) by decide)] at H; exact H
   clear H
   have H := H1
   clear H1
   have H' := Aside0.mk H
   clear H
   have hcz9_0 : w3.cell? ⟨gb187, 0, none⟩ = some (.slice A0_0 l0_0.length c0_0) := (blk_cell BK187.out 0).trans rfl
   have hcz9_1 : w3.cell? ⟨gb187, 1, none⟩ = some (.slice A0_1 l0_1.length c0_1) := (blk_cell BK187.out 1).trans rfl
   have hcz9_2 : w3.cell? ⟨gb187, 2, none⟩ = some (.slice A0_2 l0_2.length c0_2) := (blk_cell BK187.out 2).trans rfl
   have hfz9_0 := blk_frozen BK187.out 0
   have hfz9_1 := blk_frozen BK187.out 1
   have hfz9_2 := blk_frozen BK187.out 2
   go_wp2_with (first | ((with_reducible refine gate_callee (f := 77) rfl ?_); refine goesL_ (some 9) rfl rfl Try.func77 (by kernel_rfl) rfl #[.int .i64 (l0_0.length : Int), .int .i64 1, .int .i64 10] rfl (by (try simp only [List.map_toArray, List.map_cons, List.map_nil]); first | done | rfl | (simp only [List.length_drop, List.length_take]; rfl)) ?_; (with_reducible refine (spec_l1In.calls (l0_0.length : Int) 1 10 false _ A4.out).mono ?_); rintro e w' ⟨rfl, ⟨nd, rfl⟩⟩; refine ⟨_, rfl, ?_⟩))
   go_meet
   case rel => exact ⟨_, (true), (by first | rfl | (simp; done) | (simp [*]; done)), H', ⟨by first | omega | exact Nat.le_refl _⟩, ⟨bk BK187⟩, ⟨bw⟩⟩
 case rest =>
  clear HC2
  try clear p2
  try clear c3
  try clear c5
  try clear c6
  try clear c6b0
  try clear c6b1
  try clear c6b2
  try clear c7
  try clear hcz7_0
  try clear hcz7_1
  try clear hcz7_2
  try clear hcz8_0
  try clear hcz8_1
  try clear hcz8_2
  try clear hcz9_0
  try clear hcz9_1
  try clear hcz9_2
  try clear hfz7_0
  try clear hfz7_1
  try clear hfz7_2
  try clear hfz8_0
  try clear hfz8_1
  try clear hfz8_2
  try clear hfz9_0
  try clear hfz9_1
  try clear hfz9_2
  obtain ⟨kq, x25_1, rfl, HA, HJ1, BK187, HB⟩ := hcut
  cases kq with
  | zero => exact absurd HA.out (by simp [spec_WorkValid.j0])
  | succ kj1 =>
   have H := HA.out
   clear HA
   simp only [spec_WorkValid.j0] at H
   by_cases c10 : x25_1 = true
   ·subst c10
    have H1 : (some false) = some r := by rw [if_pos rfl] at H; exact H
    clear H
    have H := H1
    clear H1
    obtain rfl := Option.some.inj H
    go_wp2
    go_ret
    exact ⟨by first | rfl | (simp [errW_none, errW_some] <;> rfl) | (simp [*, errW_none, errW_some] <;> rfl), bw⟩
   ·replace c10 := Bool.eq_false_iff.mpr c10
    subst c10
    have H1 : (spec_WorkValid.l0 kj1 0 l0_0 l0_1 l0_2) = some r := by rw [if_neg (show ¬ (false = true) by decide)] at H; exact H
    clear H
    have H := H1
    clear H1
    have H' := Aside0.mk H
    clear H
    go_wp2
    go_loopg [3] kj1 (fun kq v3 w' => ∃ (x3_2 : Int), v3 = .int .i64 x3_2 ∧ Aside0 (spec_WorkValid.l0 kq x3_2 l0_0 l0_1 l0_2 = some r) ∧ Aside0 (kq ≤ kj1) ∧ Aside0 (w'.heap[gb187]? = some (.cells #[(.slice A0_0 l0_0.length c0_0), (.slice A0_1 l0_1.length c0_1), (.slice A0_2 l0_2.length c0_2)] 73 (0, 0))) ∧ Aside0 (Below w.heap.size w w'))
    case atStart => exact ⟨(0), (by first | rfl | (simp; done) | (simp [*]; done)), H', ⟨Nat.le_refl _⟩, ⟨bk BK187⟩, ⟨bw⟩⟩
    case round =>
     clear H'
     try clear c1
     try clear p2
     try clear c3
     try clear c5
     try clear c6
     try clear c6b0
     try clear c6b1
     try clear c6b2
     try clear c7
     try clear c10
     try clear hcz7_0
     try clear hcz7_1
     try clear hcz7_2
     try clear hcz8_0
     try clear hcz8_1
     try clear hcz8_2
     try clear hcz9_0
     try clear hcz9_1
     try clear hcz9_2
     try clear hfz7_0
     try clear hfz7_1
     try clear hfz7_2
     try clear hfz8_0
     try clear hfz8_1
     try clear hfz8_2
     try clear hfz9_0
     try clear hfz9_1
     try clear hfz9_2
     try clear p2
     obtain ⟨x3_2, rfl, HA, HK2, BK187, HB⟩ := hrel
     cases gk with
     | zero => exact absurd HA.out (by simp [spec_WorkValid.l0])
     | succ k2 =>
      have H := HA.out
      clear HA
      simp only [spec_WorkValid.l0] at H
      by_cases c11 : x3_2 < (l0_0.length : Int)
      ·rw [if_pos c11] at H
       have c11b0 : decide (x3_2 < (l0_0.length : Int)) = true := decide_eq_true c11
       clear c11
       by_cases c12 : 0 ≤ x3_2
       ·rw [if_pos c12] at H
        have c12b0 : decide (0 ≤ x3_2) = true := decide_eq_true c12
        clear c12
        obtain ⟨bq13, hbq13⟩ : ∃ b_ : Bool, b_ = (rdOf false l0_0 x3_2) := ⟨_, rfl⟩
        replace H : (if bq13 = true then (if x3_2 < (l0_1.length : Int) then (if rdOf false l0_1 x3_2 = true then (some false) else (spec_WorkValid.l0 k2 (wrap64 (x3_2 + 1)) l0_0 l0_1 l0_2)) else (none)) else (spec_WorkValid.l0 k2 (wrap64 (x3_2 + 1)) l0_0 l0_1 l0_2)) = some r := by rw [← hbq13] at H; exact H
        have Nbq13 := Aside0.mk hbq13
        clear hbq13
        by_cases c14 : bq13 = true
        ·subst c14
         have H1 : (if x3_2 < (l0_1.length : Int) then (if rdOf false l0_1 x3_2 = true then (some false) else (spec_WorkValid.l0 k2 (wrap64 (x3_2 + 1)) l0_0 l0_1 l0_2)) else (none)) = some r := by rw [if_pos rfl] at H; exact H
         clear H
         have H := H1
         clear H1
         by_cases c15 : x3_2 < (l0_1.length : Int)
         ·rw [if_pos c15] at H
          have c15b0 : decide (x3_2 < (l0_1.length : Int)) = true := decide_eq_true c15
          clear c15
          obtain ⟨bq16, hbq16⟩ : ∃ b_ : Bool, b_ = (rdOf false l0_1 x3_2) := ⟨_, rfl⟩
          replace H : (if bq16 = true then (some false) else (spec_WorkValid.l0 k2 (wrap64 (x3_2 + 1)) l0_0 l0_1 l0_2)) = some r := by rw [← hbq16] at H; exact H
          have Nbq16 := Aside0.mk hbq16
          clear hbq16
          by_cases c17 : bq16 = true
          ·subst c17
           have H1 : (some false) = some r := by rw [if_pos rfl] at H; exact H
           clear H
           have H := H1
           clear H1
           obtain rfl := Option.some.inj H
           have hcz18_0 : wr.cell? ⟨gb187, 0, none⟩ = some (.slice A0_0 l0_0.length c0_0) := (blk_cell BK187.out 0).trans rfl
           have hcz18_1 : wr.cell? ⟨gb187, 1, none⟩ = some (.slice A0_1 l0_1.length c0_1) := (blk_cell BK187.out 1).trans rfl
           have hcz18_2 : wr.cell? ⟨gb187, 2, none⟩ = some (.slice A0_2 l0_2.length c0_2) := (blk_cell BK187.out 2).trans rfl
           have hfz18_0 := blk_frozen BK187.out 0
           have hfz18_1 := blk_frozen BK187.out 1
           have hfz18_2 := blk_frozen BK187.out 2
           have p189 : 0 ≤ (x3_2 : Int) := of_decide_eq_true (by first | (with_reducible assumption) | assumption)
           have q189 : x3_2 < (l0_0.length : Int) := of_decide_eq_true (by first | (with_reducible assumption) | assumption)
           obtain ⟨ad189, e189, hx189_0⟩ := Kd.at_bool HR0_0.out x3_2 p189 q189
           (try rw [← Nbq13.out] at hx189_0)
           (try rw [← Nbq16.out] at hx189_0)
           cases e189
           replace hx189_0 := (HB.out.cell (World.block_lt_of_cell? w _ hx189_0)).trans hx189_0
           replace p189 := eq_true p189
           replace q189 := eq_true q189
           have p190 : 0 ≤ (x3_2 : Int) := of_decide_eq_true (by first | (with_reducible assumption) | assumption)
           have q190 : x3_2 < (l0_1.length : Int) := of_decide_eq_true (by first | (with_reducible assumption) | assumption)
           obtain ⟨ad190, e190, hx190_0⟩ := Kd.at_bool HR0_1.out x3_2 p190 q190
           (try rw [← Nbq13.out] at hx190_0)
           (try rw [← Nbq16.out] at hx190_0)
           cases e190
           replace hx190_0 := (HB.out.cell (World.block_lt_of_cell? w _ hx190_0)).trans hx190_0
           replace p190 := eq_true p190
           replace q190 := eq_true q190
           go_wp2
           go_ret
           exact ⟨by first | rfl | (simp [errW_none, errW_some] <;> rfl) | (simp [*, errW_none, errW_some] <;> rfl), bw⟩
          ·replace c17 := Bool.eq_false_iff.mpr c17
           subst c17
           have H1 : (spec_WorkValid.l0 k2 (wrap64 (x3_2 + 1)) l0_0 l0_1 l0_2) = some r := by rw [if_neg (show ¬ (false = true) by decide)] at H; exact H
           clear H
           have H := H1
           clear H1
           have H' := Aside0.mk H
           clear H
           have hcz19_0 : wr.cell? ⟨gb187, 0, none⟩ = some (.slice A0_0 l0_0.length c0_0) := (blk_cell BK187.out 0).trans rfl
           have hcz19_1 : wr.cell? ⟨gb187, 1, none⟩ = some (.slice A0_1 l0_1.length c0_1) := (blk_cell BK187.out 1).trans rfl
           have hcz19_2 : wr.cell? ⟨gb187, 2, none⟩ = some (.slice A0_2 l0_2.length c0_2) := (blk_cell BK187.out 2).trans rfl
           have hfz19_0 := blk_frozen BK187.out 0
           have hfz19_1 := blk_frozen BK187.out 1
           have hfz19_2 := blk_frozen BK187.out 2
           have p189 : 0 ≤ (x3_2 : Int) := of_decide_eq_true (by first | (with_reducible assumption) | assumption)
           have q189 : x3_2 < (l0_0.length : Int) := of_decide_eq_true (by first | (with_reducible assumption) | assumption)
           obtain ⟨ad189, e189, hx189_0⟩ := Kd.at_bool HR0_0.out x3_2 p189 q189
           (try rw [← Nbq13.out] at hx189_0)
           (try rw [← Nbq16.out] at hx189_0)
           cases e189
           replace hx189_0 := (HB.out.cell (World.block_lt_of_cell? w _ hx189_0)).trans hx189_0
           replace p189 := eq_true p189
           replace q189 := eq_true q189
           have p190 : 0 ≤ (x3_2 : Int) := of_decide_eq_true (by first | (with_reducible assumption) | assumption)
           have q190 : x3_2 < (l0_1.length : Int) := of_decide_eq_true (by first | (with_reducible assumption) | assumption)
           obtain ⟨ad190, e190, hx190_0⟩ := Kd.at_bool HR0_1.out x3_2 p190 q190
           (try rw [← Nbq13.out] at hx190_0)
           (try rw [← Nbq16.out] at hx190_0)
           cases e190
           replace hx190_0 := (HB.out.cell (World.block_lt_of_cell? w _ hx190_0)).trans hx190_0
           replace p190 := eq_true p190
           replace q190 := eq_true q190
           go_wp2
           go_roundg k2
           case measure => have := HJ1.out; have := HK2.out; omega
           case rel => exact ⟨(wrap64 (x3_2 + 1)), (by first | rfl | (simp; done) | (simp [*]; done)), H', ⟨by have := HJ1.out; have := HK2.out; omega⟩, ⟨bk BK187⟩, ⟨bw⟩⟩
         ·rw [if_neg c15] at H
          exact absurd H (by simp)
        ·replace c14 := Bool.eq_false_iff.mpr c14
         subst c14
         have H1 : (spec_WorkValid.l0 k2 (wrap64 (x3_2 + 1)) l0_0 l0_1 l0_2) = some r := by rw [if_neg (show ¬ (false = true) by decide)] at H; exact H
         clear H
         have H := H1
         clear H1
         have H' := Aside0.mk H
         clear H
         have hcz20_0 : wr.cell? ⟨gb187, 0, none⟩ = some (.slice A0_0 l0_0.length c0_0) := (blk_cell BK187.out 0).trans rfl
         have hcz20_1 : wr.cell? ⟨gb187, 1, none⟩ = some (.slice A0_1 l0_1.length c0_1) := (blk_cell BK187.out 1).trans rfl
         have hcz20_2 : wr.cell? ⟨gb187, 2, none⟩ = some (.slice A0_2 l0_2.length c0_2) := (blk_cell BK187.out 2).trans rfl
         have hfz20_0 := blk_frozen BK187.out 0
         have hfz20_1 := blk_frozen BK187.out 1
         have hfz20_2 := blk_frozen BK187.out 2
         have p189 : 0 ≤ (x3_2 : Int) := of_decide_eq_true (by first | (with_reducible assumption) | assumption)
         have q189 : x3_2 < (l0_0.length : Int) := of_decide_eq_true (by first | (with_reducible assumption) | assumption)
         obtain ⟨ad189, e189, hx189_0⟩ := Kd.at_bool HR0_0.out x3_2 p189 q189
         (try rw [← Nbq13.out] at hx189_0)
         cases e189
         replace hx189_0 := (HB.out.cell (World.block_lt_of_cell? w _ hx189_0)).trans hx189_0
         replace p189 := eq_true p189
         replace q189 := eq_true q189
         go_wp2
         go_roundg k2
         case measure => have := HJ1.out; have := HK2.out; omega
         case rel => exact ⟨(wrap64 (x3_2 + 1)), (by first | rfl | (simp; done) | (simp [*]; done)), H', ⟨by have := HJ1.out; have := HK2.out; omega⟩, ⟨bk BK187⟩, ⟨bw⟩⟩
       ·rw [if_neg c12] at H
        exact absurd H (by simp)
      ·rw [if_neg c11] at H
       have c11b0 : decide (x3_2 < (l0_0.length : Int)) = false := decide_eq_false c11
       clear c11
       have H' := Aside0.mk H
       clear H
       have hcz21_0 : wr.cell? ⟨gb187, 0, none⟩ = some (.slice A0_0 l0_0.length c0_0) := (blk_cell BK187.out 0).trans rfl
       have hcz21_1 : wr.cell? ⟨gb187, 1, none⟩ = some (.slice A0_1 l0_1.length c0_1) := (blk_cell BK187.out 1).trans rfl
       have hcz21_2 : wr.cell? ⟨gb187, 2, none⟩ = some (.slice A0_2 l0_2.length c0_2) := (blk_cell BK187.out 2).trans rfl
       have hfz21_0 := blk_frozen BK187.out 0
       have hfz21_1 := blk_frozen BK187.out 1
       have hfz21_2 := blk_frozen BK187.out 2
       go_wp2
       go_loopg [4] k2 (fun kq v4 w' => ∃ (x4_3 : Int), v4 = .int .i64 x4_3 ∧ Aside0 (spec_WorkValid.l1 kq x4_3 l0_0 l0_1 l0_2 = some r) ∧ Aside0 (kq ≤ k2) ∧ Aside0 (w'.heap[gb187]? = some (.cells #[(.slice A0_0 l0_0.length c0_0), (.slice A0_1 l0_1.length c0_1), (.slice A0_2 l0_2.length c0_2)] 73 (0, 0))) ∧ Aside0 (Below w.heap.size w w'))
       case atStart => exact ⟨(0), (by first | rfl | (simp; done) | (simp [*]; done)), H', ⟨Nat.le_refl _⟩, ⟨bk BK187⟩, ⟨bw⟩⟩
       case round =>
        clear H'
        try clear c1
        try clear p1
        try clear q1
        try clear hx1
        try clear p2
        try clear c3
        try clear c5
        try clear c6
        try clear c6b0
        try clear c6b1
        try clear c6b2
        try clear p6
        try clear c7
        try clear c10
        try clear c11
        try clear c11b0
        try clear c12
        try clear c12b0
        try clear q13
        try clear c14
        try clear c15
        try clear c15b0
        try clear q16
        try clear c17
        try clear p18
        try clear q18
        try clear hx18
        try clear p19
        try clear q19
        try clear hx19
        try clear hcz18_0
        try clear hcz18_1
        try clear hcz18_2
        try clear hcz19_0
        try clear hcz19_1
        try clear hcz19_2
        try clear hcz20_0
        try clear hcz20_1
        try clear hcz20_2
        try clear hcz21_0
        try clear hcz21_1
        try clear hcz21_2
        try clear hcz7_0
        try clear hcz7_1
        try clear hcz7_2
        try clear hcz8_0
        try clear hcz8_1
        try clear hcz8_2
        try clear hcz9_0
        try clear hcz9_1
        try clear hcz9_2
        try clear hfz18_0
        try clear hfz18_1
        try clear hfz18_2
        try clear hfz19_0
        try clear hfz19_1
        try clear hfz19_2
        try clear hfz20_0
        try clear hfz20_1
        try clear hfz20_2
        try clear hfz21_0
        try clear hfz21_1
        try clear hfz21_2
        try clear hfz7_0
        try clear hfz7_1
        try clear hfz7_2
        try clear hfz8_0
        try clear hfz8_1
        try clear hfz8_2
        try clear hfz9_0
        try clear hfz9_1
        try clear hfz9_2
        try clear hx189_0
        try clear hx190_0
        try clear p189
        try clear p190
        try clear p2
        try clear q189
        try clear q190
        obtain ⟨x4_3, rfl, HA, HK3, BK187, HB⟩ := hrel
        cases gk with
        | zero => exact absurd HA.out (by simp [spec_WorkValid.l1])
        | succ k3 =>
         have H := HA.out
         clear HA
         simp only [spec_WorkValid.l1] at H
         by_cases c22 : x4_3 < (l0_2.length : Int)
         ·rw [if_pos c22] at H
          have c22b0 : decide (x4_3 < (l0_2.length : Int)) = true := decide_eq_true c22
          clear c22
          by_cases c23 : 0 ≤ x4_3
          ·rw [if_pos c23] at H
           have c23b0 : decide (0 ≤ x4_3) = true := decide_eq_true c23
           clear c23
           replace H := Option.bind_eq_some_iff.mp H
           obtain ⟨t193, A240, H⟩ := H
           replace H : (if t193 = true then ((spec_l1In.f ((rd_T112 l0_2 x4_3).f1) 0 (wrap64 ((l0_0.length : Int) - 1))).bind fun t194 => (if t194 = true then (if 0 ≤ ((rd_T112 l0_2 x4_3).f1) then (if ((rd_T112 l0_2 x4_3).f1) < (l0_1.length : Int) then (if (rdOf false l0_1 ((rd_T112 l0_2 x4_3).f1) = true) then ((spec_l12Find.f k3 l0_2 ((rd_T112 l0_2 x4_3).f0) ((rd_T112 l0_2 x4_3).f1)).bind fun t196 => (if t196 < x4_3 then (some false) else (spec_WorkValid.l1 k3 (wrap64 (x4_3 + 1)) l0_0 l0_1 l0_2))) else (some false)) else (none)) else (none)) else (some false))) else (some false)) = some r := H
           have A24 := Aside0.mk A240
           clear A240
           by_cases c25 : t193 = true
           ·subst c25
            have H1 : ((spec_l1In.f ((rd_T112 l0_2 x4_3).f1) 0 (wrap64 ((l0_0.length : Int) - 1))).bind fun t194 => (if t194 = true then (if 0 ≤ ((rd_T112 l0_2 x4_3).f1) then (if ((rd_T112 l0_2 x4_3).f1) < (l0_1.length : Int) then (if (rdOf false l0_1 ((rd_T112 l0_2 x4_3).f1) = true) then ((spec_l12Find.f k3 l0_2 ((rd_T112 l0_2 x4_3).f0) ((rd_T112 l0_2 x4_3).f1)).bind fun t196 => (if t196 < x4_3 then (some false) else (spec_WorkValid.l1 k3 (wrap64 (x4_3 + 1)) l0_0 l0_1 l0_2))) else (some false)) else (none)) else (none)) else (some false))) = some r := by rw [if_pos rfl] at H; exact H
            clear H
            have H := H1
            clear H1
            replace H := Option.bind_eq_some_iff.mp H
            obtain ⟨t194, A260, H⟩ := H
            replace H : (if t194 = true then (if 0 ≤ ((rd_T112 l0_2 x4_3).f1) then (if ((rd_T112 l0_2 x4_3).f1) < (l0_1.length : Int) then (if (rdOf false l0_1 ((rd_T112 l0_2 x4_3).f1) = true) then ((spec_l12Find.f k3 l0_2 ((rd_T112 l0_2 x4_3).f0) ((rd_T112 l0_2 x4_3).f1)).bind fun t196 => (if t196 < x4_3 then (some false) else (spec_WorkValid.l1 k3 (wrap64 (x4_3 + 1)) l0_0 l0_1 l0_2))) else (some false)) else (none)) else (none)) else (some false)) = some r := H
            have A26 := Aside0.mk A260
            clear A260
            by_cases c27 : t194 = true
            ·subst c27
             have H1 : (if 0 ≤ ((rd_T112 l0_2 x4_3).f1) then (if ((rd_T112 l0_2 x4_3).f1) < (l0_1.length : Int) then (if (rdOf false l0_1 ((rd_T112 l0_2 x4_3).f1) = true) then ((spec_l12Find.f k3 l0_2 ((rd_T112 l0_2 x4_3).f0) ((rd_T112 l0_2 x4_3).f1)).bind fun t196 => (if t196 < x4_3 then (some false) else (spec_WorkValid.l1 k3 (wrap64 (x4_3 + 1)) l0_0 l0_1 l0_2))) else (some false)) else (none)) else (none)) = some r := by rw [if_pos rfl] at H; exact H
             clear H
             have H := H1
             clear H1
             by_cases c28 : 0 ≤ ((rd_T112 l0_2 x4_3).f1)
             ·rw [if_pos c28] at H
              have c28b0 : decide (0 ≤ ((rd_T112 l0_2 x4_3).f1)) = true := decide_eq_true c28
              clear c28
              by_cases c29 : ((rd_T112 l0_2 x4_3).f1) < (l0_1.length : Int)
              ·rw [if_pos c29] at H
               have c29b0 : decide (((rd_T112 l0_2 x4_3).f1) < (l0_1.length : Int)) = true := decide_eq_true c29
               clear c29
               obtain ⟨bq30, hbq30⟩ : ∃ b_ : Bool, b_ = (rdOf false l0_1 ((rd_T112 l0_2 x4_3).f1)) := ⟨_, rfl⟩
               replace H : (if (bq30 = true) then ((spec_l12Find.f k3 l0_2 ((rd_T112 l0_2 x4_3).f0) ((rd_T112 l0_2 x4_3).f1)).bind fun t196 => (if t196 < x4_3 then (some false) else (spec_WorkValid.l1 k3 (wrap64 (x4_3 + 1)) l0_0 l0_1 l0_2))) else (some false)) = some r := by rw [← hbq30] at H; exact H
               have Nbq30 := Aside0.mk hbq30
               clear hbq30
               by_cases c31 : (bq30 = true)
               ·subst c31
                have H1 : ((spec_l12Find.f k3 l0_2 ((rd_T112 l0_2 x4_3).f0) ((rd_T112 l0_2 x4_3).f1)).bind fun t196 => (if t196 < x4_3 then (some false) else (spec_WorkValid.l1 k3 (wrap64 (x4_3 + 1)) l0_0 l0_1 l0_2))) = some r := by rw [if_pos rfl] at H; exact H
                clear H
                have H := H1
                clear H1
                replace H := Option.bind_eq_some_iff.mp H
                obtain ⟨t196, A320, H⟩ := H
                replace H : (if t196 < x4_3 then (some false) else (spec_WorkValid.l1 k3 (wrap64 (x4_3 + 1)) l0_0 l0_1 l0_2)) = some r := H
                have A32 := Aside0.mk A320
                clear A320
                by_cases c33 : t196 < x4_3
                ·rw [if_pos c33] at H
                 have c33b0 : decide (t196 < x4_3) = true := decide_eq_true c33
                 clear c33
                 obtain rfl := Option.some.inj H
                 have hcz34_0 : wr.cell? ⟨gb187, 0, none⟩ = some (.slice A0_0 l0_0.length c0_0) := (blk_cell BK187.out 0).trans rfl
                 have hcz34_1 : wr.cell? ⟨gb187, 1, none⟩ = some (.slice A0_1 l0_1.length c0_1) := (blk_cell BK187.out 1).trans rfl
                 have hcz34_2 : wr.cell? ⟨gb187, 2, none⟩ = some (.slice A0_2 l0_2.length c0_2) := (blk_cell BK187.out 2).trans rfl
                 have hfz34_0 := blk_frozen BK187.out 0
                 have hfz34_1 := blk_frozen BK187.out 1
                 have hfz34_2 := blk_frozen BK187.out 2
                 have p191 : 0 ≤ (x4_3 : Int) := of_decide_eq_true (by first | (with_reducible assumption) | assumption)
                 have q191 : x4_3 < (l0_2.length : Int) := of_decide_eq_true (by first | (with_reducible assumption) | assumption)
                 obtain ⟨ad191, e191, hx191_0, hx191_1⟩ := at_T112 HR0_2.out x4_3 p191 q191
                 cases e191
                 replace hx191_0 := (HB.out.cell (World.block_lt_of_cell? w _ hx191_0)).trans hx191_0
                 replace hx191_1 := (HB.out.cell (World.block_lt_of_cell? w _ hx191_1)).trans hx191_1
                 replace p191 := eq_true p191
                 replace q191 := eq_true q191
                 go_wp2_with (first | ((with_reducible refine gate_dst (N := 5) rfl ?_); (try (refine gate_guard (by rfl) ?_; dsimp only)); refine box_event ?hg (N := 5) ?hd (cs := #[.int .i64 0, .int .i64 0]) (t := 112) ?hr ?_; (case hd => rfl); (case hg => rfl); (case hr => first | (go_simp; done) | (go_simp; rfl)); intro gb192 hg w35 hbox hb; have n0_ := bkB BK187 hb; have n1_ := Aside0.mk (below_step bw hb); have n2_ := Aside0.mk (hbox); have n3_ := Aside0.mk ((by rw [hg]; exact (below_size bw) : w.heap.size ≤ gb192)); have n4_ := Aside0.mk ((by rw [hg]; exact (below_size bw) : w.heap.size ≤ gb192)); have n5_ := Aside0.mk ((by rw [hg]; exact Nat.ne_of_lt (blk_lt (g := gb187) (o := .cells #[.slice A0_0 l0_0.length c0_0, .slice A0_1 l0_1.length c0_1, .slice (some ad191) l0_2.length c0_2] 73 (0, 0)) (bk BK187)) : gb187 ≠ gb192)); have n6_ := Aside0.mk ((by rw [hg]; exact Nat.ne_of_gt (blk_lt (g := gb187) (o := .cells #[.slice A0_0 l0_0.length c0_0, .slice A0_1 l0_1.length c0_1, .slice (some ad191) l0_2.length c0_2] 73 (0, 0)) (bk BK187)) : gb192 ≠ gb187)); clear BK187 HB; have BK187 := n0_; have HB := n1_; have BK192 := n2_; have GW192 := n3_; have GE192 := n4_; have NB187_192 := n5_; have NB192_187 := n6_; clear n0_ n1_ n2_ n3_ n4_ n5_ n6_; clear hb hbox hg; have hnb36 := NB192_187.out; have hnc36 := NB187_192.out; have hcz37_0 : w35.cell? ⟨gb192, 0, none⟩ = some (.int .i64 0) := (blk_cell BK192.out 0).trans rfl; have hcz37_1 : w35.cell? ⟨gb192, 1, none⟩ = some (.int .i64 0) := (blk_cell BK192.out 1).trans rfl; have hfz37_0 := blk_frozen BK192.out 0; have hfz37_1 := blk_frozen BK192.out 1) | ((with_reducible refine gate_callee (f := 77) rfl ?_); refine goesL_ (some 59) rfl rfl Try.func77 (by kernel_rfl) rfl #[.int .i64 ((rd_T112 l0_2 x4_3).f0), .int .i64 0, .int .i64 9] rfl (by (try simp only [List.map_toArray, List.map_cons, List.map_nil]); first | done | rfl | (simp only [List.length_drop, List.length_take]; rfl)) ?_; (with_reducible refine (spec_l1In.calls ((rd_T112 l0_2 x4_3).f0) 0 9 true _ A24.out).mono ?_); rintro e w' ⟨rfl, ⟨nd, rfl⟩⟩; refine ⟨_, rfl, ?_⟩; have hcz38_0 : w35.cell? ⟨gb187, 0, none⟩ = some (.slice A0_0 l0_0.length c0_0) := (blk_cell BK187.out 0).trans rfl; have hcz38_1 : w35.cell? ⟨gb187, 1, none⟩ = some (.slice A0_1 l0_1.length c0_1) := (blk_cell BK187.out 1).trans rfl; have hcz38_2 : w35.cell? ⟨gb187, 2, none⟩ = some (.slice (some ad191) l0_2.length c0_2) := (blk_cell BK187.out 2).trans rfl; have hfz38_0 := blk_frozen BK187.out 0; have hfz38_1 := blk_frozen BK187.out 1; have hfz38_2 := blk_frozen BK187.out 2) | (go_at_call 77; (with_reducible refine (spec_l1In.calls ((rd_T112 l0_2 x4_3).f1) 0 (wrap64 ((l0_0.length : Int) - 1)) true _ A26.out).mono ?_); rintro e w' ⟨rfl, ⟨nd, rfl⟩⟩; have p195 : 0 ≤ (((rd_T112 l0_2 x4_3).f1) : Int) := of_decide_eq_true (by first | (with_reducible assumption) | assumption); have q195 : ((rd_T112 l0_2 x4_3).f1) < (l0_1.length : Int) := of_decide_eq_true (by first | (with_reducible assumption) | assumption); obtain ⟨ad195, e195, hx195_0⟩ := Kd.at_bool HR0_1.out ((rd_T112 l0_2 x4_3).f1) p195 q195; (try rw [← Nbq30.out] at hx195_0); cases e195; have hn195_0 : ad195.block ≠ gb192 := Nat.ne_of_lt (Nat.lt_of_lt_of_le (by have := World.block_lt_of_cell? _ _ hx195_0; first | rwa [add_block] at this | exact this) GW192.out); have hn195_1 : ad195.block ≠ gb192 := Nat.ne_of_lt (Nat.lt_of_lt_of_le (by have := World.block_lt_of_cell? _ _ hx195_0; first | rwa [add_block] at this | exact this) GW192.out); replace hx195_0 := (HB.out.cell (World.block_lt_of_cell? w _ hx195_0)).trans hx195_0; replace hx195_0 := (cell_far (p := ⟨gb192, 0, none⟩) (by first | (rw [add_block]; exact hn195_0) | (show (Addr.add _ _).block ≠ _; rw [add_block]; exact hn195_0) | exact hn195_0) (.int .i64 ((rd_T112 l0_2 x4_3).f0))).trans hx195_0; replace hx195_0 := (cell_far (p := ⟨gb192, 1, none⟩) (by first | (rw [add_block]; exact hn195_1) | (show (Addr.add _ _).block ≠ _; rw [add_block]; exact hn195_1) | exact hn195_1) (.int .i64 ((rd_T112 l0_2 x4_3).f1))).trans hx195_0; clear hn195_0 hn195_1; replace p195 := eq_true p195; replace q195 := eq_true q195) | (go_at_call 78; (with_reducible refine (spec_l12Find.calls k3 _ _ l0_2 ((rd_T112 l0_2 x4_3).f0) ((rd_T112 l0_2 x4_3).f1) t196 _ ?side1 ?side2 A32.out).mono ?_); (case side1 => exact Kd.C_below HR0_2.out bw); (case side2 => exact HC0_2.out); rintro e w39 ⟨rfl, hb⟩; have n0_ := Aside0.mk (blk_below (g := gb187) (o := .cells #[.slice A0_0 l0_0.length c0_0, .slice (some ad195) l0_1.length c0_1, .slice (some ad191) l0_2.length c0_2] 73 (0, 0)) (by (with_reducible repeat (first | refine blk_drewN ?_ _ | refine blk_drew ?_ | refine blk_alloc ?_ _)); refine blk_far ?_ NB187_192.out _; (with_reducible repeat (first | refine blk_drewN ?_ _ | refine blk_drew ?_ | refine blk_alloc ?_ _)); refine blk_far ?_ NB187_192.out _; (with_reducible repeat (first | refine blk_drewN ?_ _ | refine blk_drew ?_ | refine blk_alloc ?_ _)); exact BK187.out) hb); have n1_ := Aside0.mk (blk_below (g := gb192) (o := .cells #[.int .i64 ((rd_T112 l0_2 x4_3).f0), .int .i64 ((rd_T112 l0_2 x4_3).f1)] 112 (0, 0)) (by (with_reducible repeat (first | refine blk_drewN ?_ _ | refine blk_drew ?_ | refine blk_alloc ?_ _)); refine blk_put (cs := #[.int .i64 ((rd_T112 l0_2 x4_3).f0), .int .i64 0]) ?_ 1 _ rfl; (with_reducible repeat (first | refine blk_drewN ?_ _ | refine blk_drew ?_ | refine blk_alloc ?_ _)); refine blk_put (cs := #[.int .i64 0, .int .i64 0]) ?_ 0 _ rfl; (with_reducible repeat (first | refine blk_drewN ?_ _ | refine blk_drew ?_ | refine blk_alloc ?_ _)); exact BK192.out) hb); have n2_ := Aside0.mk (below_step bw hb); clear BK187 BK192 HB; have BK187 := n0_; have BK192 := n1_; have HB := n2_; clear n0_ n1_ n2_; (try clear hb); (try clear hb2); (try clear hk); (try clear hi)))
                 go_ret
                 exact ⟨by first | rfl | (simp [errW_none, errW_some] <;> rfl) | (simp [*, errW_none, errW_some] <;> rfl), bw⟩
                ·rw [if_neg c33] at H
                 have c33b0 : decide (t196 < x4_3) = false := decide_eq_false c33
                 clear c33
                 have H' := Aside0.mk H
                 clear H
                 have hcz40_0 : wr.cell? ⟨gb187, 0, none⟩ = some (.slice A0_0 l0_0.length c0_0) := (blk_cell BK187.out 0).trans rfl
                 have hcz40_1 : wr.cell? ⟨gb187, 1, none⟩ = some (.slice A0_1 l0_1.length c0_1) := (blk_cell BK187.out 1).trans rfl
                 have hcz40_2 : wr.cell? ⟨gb187, 2, none⟩ = some (.slice A0_2 l0_2.length c0_2) := (blk_cell BK187.out 2).trans rfl
                 have hfz40_0 := blk_frozen BK187.out 0
                 have hfz40_1 := blk_frozen BK187.out 1
                 have hfz40_2 := blk_frozen BK187.out 2
                 have p191 : 0 ≤ (x4_3 : Int) := of_decide_eq_true (by first | (with_reducible assumption) | assumption)
                 have q191 : x4_3 < (l0_2.length : Int) := of_decide_eq_true (by first | (with_reducible assumption) | assumption)
                 obtain ⟨ad191, e191, hx191_0, hx191_1⟩ := at_T112 HR0_2.out x4_3 p191 q191
                 cases e191
                 replace hx191_0 := (HB.out.cell (World.block_lt_of_cell? w _ hx191_0)).trans hx191_0
                 replace hx191_1 := (HB.out.cell (World.block_lt_of_cell? w _ hx191_1)).trans hx191_1
                 replace p191 := eq_true p191
                 replace q191 := eq_true q191
                 go_wp2_with (first | ((with_reducible refine gate_dst (N := 5) rfl ?_); (try (refine gate_guard (by rfl) ?_; dsimp only)); refine box_event ?hg (N := 5) ?hd (cs := #[.int .i64 0, .int .i64 0]) (t := 112) ?hr ?_; (case hd => rfl); (case hg => rfl); (case hr => first | (go_simp; done) | (go_simp; rfl)); intro gb192 hg w41 hbox hb; have n0_ := bkB BK187 hb; have n1_ := Aside0.mk (below_step bw hb); have n2_ := Aside0.mk (hbox); have n3_ := Aside0.mk ((by rw [hg]; exact (below_size bw) : w.heap.size ≤ gb192)); have n4_ := Aside0.mk ((by rw [hg]; exact (below_size bw) : w.heap.size ≤ gb192)); have n5_ := Aside0.mk ((by rw [hg]; exact Nat.ne_of_lt (blk_lt (g := gb187) (o := .cells #[.slice A0_0 l0_0.length c0_0, .slice A0_1 l0_1.length c0_1, .slice (some ad191) l0_2.length c0_2] 73 (0, 0)) (bk BK187)) : gb187 ≠ gb192)); have n6_ := Aside0.mk ((by rw [hg]; exact Nat.ne_of_gt (blk_lt (g := gb187) (o := .cells #[.slice A0_0 l0_0.length c0_0, .slice A0_1 l0_1.length c0_1, .slice (some ad191) l0_2.length c0_2] 73 (0, 0)) (bk BK187)) : gb192 ≠ gb187)); clear BK187 HB; have BK187 := n0_; have HB := n1_; have BK192 := n2_; have GW192 := n3_; have GE192 := n4_; have NB187_192 := n5_; have NB192_187 := n6_; clear n0_ n1_ n2_ n3_ n4_ n5_ n6_; clear hb hbox hg; have hnb42 := NB192_187.out; have hnc42 := NB187_192.out; have hcz43_0 : w41.cell? ⟨gb192, 0, none⟩ = some (.int .i64 0) := (blk_cell BK192.out 0).trans rfl; have hcz43_1 : w41.cell? ⟨gb192, 1, none⟩ = some (.int .i64 0) := (blk_cell BK192.out 1).trans rfl; have hfz43_0 := blk_frozen BK192.out 0; have hfz43_1 := blk_frozen BK192.out 1) | ((with_reducible refine gate_callee (f := 77) rfl ?_); refine goesL_ (some 59) rfl rfl Try.func77 (by kernel_rfl) rfl #[.int .i64 ((rd_T112 l0_2 x4_3).f0), .int .i64 0, .int .i64 9] rfl (by (try simp only [List.map_toArray, List.map_cons, List.map_nil]); first | done | rfl | (simp only [List.length_drop, List.length_take]; rfl)) ?_; (with_reducible refine (spec_l1In.calls ((rd_T112 l0_2 x4_3).f0) 0 9 true _ A24.out).mono ?_); rintro e w' ⟨rfl, ⟨nd, rfl⟩⟩; refine ⟨_, rfl, ?_⟩; have hcz44_0 : w41.cell? ⟨gb187, 0, none⟩ = some (.slice A0_0 l0_0.length c0_0) := (blk_cell BK187.out 0).trans rfl; have hcz44_1 : w41.cell? ⟨gb187, 1, none⟩ = some (.slice A0_1 l0_1.length c0_1) := (blk_cell BK187.out 1).trans rfl; have hcz44_2 : w41.cell? ⟨gb187, 2, none⟩ = some (.slice (some ad191) l0_2.length c0_2) := (blk_cell BK187.out 2).trans rfl; have hfz44_0 := blk_frozen BK187.out 0; have hfz44_1 := blk_frozen BK187.out 1; have hfz44_2 := blk_frozen BK187.out 2) | (go_at_call 77; (with_reducible refine (spec_l1In.calls ((rd_T112 l0_2 x4_3).f1) 0 (wrap64 ((l0_0.length : Int) - 1)) true _ A26.out).mono ?_); rintro e w' ⟨rfl, ⟨nd, rfl⟩⟩; have p195 : 0 ≤ (((rd_T112 l0_2 x4_3).f1) : Int) := of_decide_eq_true (by first | (with_reducible assumption) | assumption); have q195 : ((rd_T112 l0_2 x4_3).f1) < (l0_1.length : Int) := of_decide_eq_true (by first | (with_reducible assumption) | assumption); obtain ⟨ad195, e195, hx195_0⟩ := Kd.at_bool HR0_1.out ((rd_T112 l0_2 x4_3).f1) p195 q195; (try rw [← Nbq30.out] at hx195_0); cases e195; have hn195_0 : ad195.block ≠ gb192 := Nat.ne_of_lt (Nat.lt_of_lt_of_le (by have := World.block_lt_of_cell? _ _ hx195_0; first | rwa [add_block] at this | exact this) GW192.out); have hn195_1 : ad195.block ≠ gb192 := Nat.ne_of_lt (Nat.lt_of_lt_of_le (by have := World.block_lt_of_cell? _ _ hx195_0; first | rwa [add_block] at this | exact this) GW192.out); replace hx195_0 := (HB.out.cell (World.block_lt_of_cell? w _ hx195_0)).trans hx195_0; replace hx195_0 := (cell_far (p := ⟨gb192, 0, none⟩) (by first | (rw [add_block]; exact hn195_0) | (show (Addr.add _ _).block ≠ _; rw [add_block]; exact hn195_0) | exact hn195_0) (.int .i64 ((rd_T112 l0_2 x4_3).f0))).trans hx195_0; replace hx195_0 := (cell_far (p := ⟨gb192, 1, none⟩) (by first | (rw [add_block]; exact hn195_1) | (show (Addr.add _ _).block ≠ _; rw [add_block]; exact hn195_1) | exact hn195_1) (.int .i64 ((rd_T112 l0_2 x4_3).f1))).trans hx195_0; clear hn195_0 hn195_1; replace p195 := eq_true p195; replace q195 := eq_true q195) | (go_at_call 78; (with_reducible refine (spec_l12Find.calls k3 _ _ l0_2 ((rd_T112 l0_2 x4_3).f0) ((rd_T112 l0_2 x4_3).f1) t196 _ ?side1 ?side2 A32.out).mono ?_); (case side1 => exact Kd.C_below HR0_2.out bw); (case side2 => exact HC0_2.out); rintro e w45 ⟨rfl, hb⟩; have n0_ := Aside0.mk (blk_below (g := gb187) (o := .cells #[.slice A0_0 l0_0.length c0_0, .slice (some ad195) l0_1.length c0_1, .slice (some ad191) l0_2.length c0_2] 73 (0, 0)) (by (with_reducible repeat (first | refine blk_drewN ?_ _ | refine blk_drew ?_ | refine blk_alloc ?_ _)); refine blk_far ?_ NB187_192.out _; (with_reducible repeat (first | refine blk_drewN ?_ _ | refine blk_drew ?_ | refine blk_alloc ?_ _)); refine blk_far ?_ NB187_192.out _; (with_reducible repeat (first | refine blk_drewN ?_ _ | refine blk_drew ?_ | refine blk_alloc ?_ _)); exact BK187.out) hb); have n1_ := Aside0.mk (blk_below (g := gb192) (o := .cells #[.int .i64 ((rd_T112 l0_2 x4_3).f0), .int .i64 ((rd_T112 l0_2 x4_3).f1)] 112 (0, 0)) (by (with_reducible repeat (first | refine blk_drewN ?_ _ | refine blk_drew ?_ | refine blk_alloc ?_ _)); refine blk_put (cs := #[.int .i64 ((rd_T112 l0_2 x4_3).f0), .int .i64 0]) ?_ 1 _ rfl; (with_reducible repeat (first | refine blk_drewN ?_ _ | refine blk_drew ?_ | refine blk_alloc ?_ _)); refine blk_put (cs := #[.int .i64 0, .int .i64 0]) ?_ 0 _ rfl; (with_reducible repeat (first | refine blk_drewN ?_ _ | refine blk_drew ?_ | refine blk_alloc ?_ _)); exact BK192.out) hb); have n2_ := Aside0.mk (below_step bw hb); clear BK187 BK192 HB; have BK187 := n0_; have BK192 := n1_; have HB := n2_; clear n0_ n1_ n2_; (try clear hb); (try clear hb2); (try clear hk); (try clear hi)))
                 go_roundg k3
                 case measure => have := HJ1.out; have := HK2.out; have := HK3.out; omega
                 case rel => exact ⟨(wrap64 (x4_3 + 1)), (by first | rfl | (simp; done) | (simp [*]; done)), H', ⟨by have := HJ1.out; have := HK2.out; have := HK3.out; omega⟩, ⟨bk BK187⟩, ⟨bw⟩⟩
               ·replace c31 := Bool.eq_false_iff.mpr c31
                subst c31
                have H1 : (some false) = some r := by rw [if_neg (show ¬ (false = true) by decide)] at H; exact H
                clear H
                have H := H1
                clear H1
                obtain rfl := Option.some.inj H
                have hcz46_0 : wr.cell? ⟨gb187, 0, none⟩ = some (.slice A0_0 l0_0.length c0_0) := (blk_cell BK187.out 0).trans rfl
                have hcz46_1 : wr.cell? ⟨gb187, 1, none⟩ = some (.slice A0_1 l0_1.length c0_1) := (blk_cell BK187.out 1).trans rfl
                have hcz46_2 : wr.cell? ⟨gb187, 2, none⟩ = some (.slice A0_2 l0_2.length c0_2) := (blk_cell BK187.out 2).trans rfl
                have hfz46_0 := blk_frozen BK187.out 0
                have hfz46_1 := blk_frozen BK187.out 1
                have hfz46_2 := blk_frozen BK187.out 2
                have p191 : 0 ≤ (x4_3 : Int) := of_decide_eq_true (by first | (with_reducible assumption) | assumption)
                have q191 : x4_3 < (l0_2.length : Int) := of_decide_eq_true (by first | (with_reducible assumption) | assumption)
                obtain ⟨ad191, e191, hx191_0, hx191_1⟩ := at_T112 HR0_2.out x4_3 p191 q191
                cases e191
                replace hx191_0 := (HB.out.cell (World.block_lt_of_cell? w _ hx191_0)).trans hx191_0
                replace hx191_1 := (HB.out.cell (World.block_lt_of_cell? w _ hx191_1)).trans hx191_1
                replace p191 := eq_true p191
                replace q191 := eq_true q191
                go_wp2_with (first | ((with_reducible refine gate_dst (N := 5) rfl ?_); (try (refine gate_guard (by rfl) ?_; dsimp only)); refine box_event ?hg (N := 5) ?hd (cs := #[.int .i64 0, .int .i64 0]) (t := 112) ?hr ?_; (case hd => rfl); (case hg => rfl); (case hr => first | (go_simp; done) | (go_simp; rfl)); intro gb192 hg w47 hbox hb; have n0_ := bkB BK187 hb; have n1_ := Aside0.mk (below_step bw hb); have n2_ := Aside0.mk (hbox); have n3_ := Aside0.mk ((by rw [hg]; exact (below_size bw) : w.heap.size ≤ gb192)); have n4_ := Aside0.mk ((by rw [hg]; exact (below_size bw) : w.heap.size ≤ gb192)); have n5_ := Aside0.mk ((by rw [hg]; exact Nat.ne_of_lt (blk_lt (g := gb187) (o := .cells #[.slice A0_0 l0_0.length c0_0, .slice A0_1 l0_1.length c0_1, .slice (some ad191) l0_2.length c0_2] 73 (0, 0)) (bk BK187)) : gb187 ≠ gb192)); have n6_ := Aside0.mk ((by rw [hg]; exact Nat.ne_of_gt (blk_lt (g := gb187) (o := .cells #[.slice A0_0 l0_0.length c0_0, .slice A0_1 l0_1.length c0_1, .slice (some ad191) l0_2.length c0_2] 73 (0, 0)) (bk BK187)) : gb192 ≠ gb187)); clear BK187 HB; have BK187 := n0_; have HB := n1_; have BK192 := n2_; have GW192 := n3_; have GE192 := n4_; have NB187_192 := n5_; have NB192_187 := n6_; clear n0_ n1_ n2_ n3_ n4_ n5_ n6_; clear hb hbox hg; have hnb48 := NB192_187.out; have hnc48 := NB187_192.out; have hcz49_0 : w47.cell? ⟨gb192, 0, none⟩ = some (.int .i64 0) := (blk_cell BK192.out 0).trans rfl; have hcz49_1 : w47.cell? ⟨gb192, 1, none⟩ = some (.int .i64 0) := (blk_cell BK192.out 1).trans rfl; have hfz49_0 := blk_frozen BK192.out 0; have hfz49_1 := blk_frozen BK192.out 1) | ((with_reducible refine gate_callee (f := 77) rfl ?_); refine goesL_ (some 59) rfl rfl Try.func77 (by kernel_rfl) rfl #[.int .i64 ((rd_T112 l0_2 x4_3).f0), .int .i64 0, .int .i64 9] rfl (by (try simp only [List.map_toArray, List.map_cons, List.map_nil]); first | done | rfl | (simp only [List.length_drop, List.length_take]; rfl)) ?_; (with_reducible refine (spec_l1In.calls ((rd_T112 l0_2 x4_3).f0) 0 9 true _ A24.out).mono ?_); rintro e w' ⟨rfl, ⟨nd, rfl⟩⟩; refine ⟨_, rfl, ?_⟩; have hcz50_0 : w47.cell? ⟨gb187, 0, none⟩ = some (.slice A0_0 l0_0.length c0_0) := (blk_cell BK187.out 0).trans rfl; have hcz50_1 : w47.cell? ⟨gb187, 1, none⟩ = some (.slice A0_1 l0_1.length c0_1) := (blk_cell BK187.out 1).trans rfl; have hcz50_2 : w47.cell? ⟨gb187, 2, none⟩ = some (.slice (some ad191) l0_2.length c0_2) := (blk_cell BK187.out 2).trans rfl; have hfz50_0 := blk_frozen BK187.out 0; have hfz50_1 := blk_frozen BK187.out 1; have hfz50_2 := blk_frozen BK187.out 2) | (go_at_call 77; (with_reducible refine (spec_l1In.calls ((rd_T112 l0_2 x4_3).f1) 0 (wrap64 ((l0_0.length : Int) - 1)) true _ A26.out).mono ?_); rintro e w' ⟨rfl, ⟨nd, rfl⟩⟩; have p195 : 0 ≤ (((rd_T112 l0_2 x4_3).f1) : Int) := of_decide_eq_true (by first | (with_reducible assumption) | assumption); have q195 : ((rd_T112 l0_2 x4_3).f1) < (l0_1.length : Int) := of_decide_eq_true (by first | (with_reducible assumption) | assumption); obtain ⟨ad195, e195, hx195_0⟩ := Kd.at_bool HR0_1.out ((rd_T112 l0_2 x4_3).f1) p195 q195; (try rw [← Nbq30.out] at hx195_0); cases e195; have hn195_0 : ad195.block ≠ gb192 := Nat.ne_of_lt (Nat.lt_of_lt_of_le (by have := World.block_lt_of_cell? _ _ hx195_0; first | rwa [add_block] at this | exact this) GW192.out); have hn195_1 : ad195.block ≠ gb192 := Nat.ne_of_lt (Nat.lt_of_lt_of_le (by have := World.block_lt_of_cell? _ _ hx195_0; first | rwa [add_block] at this | exact this) GW192.out); replace hx195_0 := (HB.out.cell (World.block_lt_of_cell? w _ hx195_0)).trans hx195_0; replace hx195_0 := (cell_far (p := ⟨gb192, 0, none⟩) (by first | (rw [add_block]; exact hn195_0) | (show (Addr.add _ _).block ≠ _; rw [add_block]; exact hn195_0) | exact hn195_0) (.int .i64 ((rd_T112 l0_2 x4_3).f0))).trans hx195_0; replace hx195_0 := (cell_far (p := ⟨gb192, 1, none⟩) (by first | (rw [add_block]; exact hn195_1) | (show (Addr.add _ _).block ≠ _; rw [add_block]; exact hn195_1) | exact hn195_1) (.int .i64 ((rd_T112 l0_2 x4_3).f1))).trans hx195_0; clear hn195_0 hn195_1; replace p195 := eq_true p195; replace q195 := eq_true q195))
                go_ret
                exact ⟨by first | rfl | (simp [errW_none, errW_some] <;> rfl) | (simp [*, errW_none, errW_some] <;> rfl), bw⟩
              ·rw [if_neg c29] at H
               exact absurd H (by simp)
             ·rw [if_neg c28] at H
              exact absurd H (by simp)
            ·replace c27 := Bool.eq_false_iff.mpr c27
             subst c27
             have H1 : (some false) = some r := by rw [if_neg (show ¬ (false = true) by decide)] at H; exact H
             clear H
             have H := H1
             clear H1
             obtain rfl := Option.some.inj H
             have hcz51_0 : wr.cell? ⟨gb187, 0, none⟩ = some (.slice A0_0 l0_0.length c0_0) := (blk_cell BK187.out 0).trans rfl
             have hcz51_1 : wr.cell? ⟨gb187, 1, none⟩ = some (.slice A0_1 l0_1.length c0_1) := (blk_cell BK187.out 1).trans rfl
             have hcz51_2 : wr.cell? ⟨gb187, 2, none⟩ = some (.slice A0_2 l0_2.length c0_2) := (blk_cell BK187.out 2).trans rfl
             have hfz51_0 := blk_frozen BK187.out 0
             have hfz51_1 := blk_frozen BK187.out 1
             have hfz51_2 := blk_frozen BK187.out 2
             have p191 : 0 ≤ (x4_3 : Int) := of_decide_eq_true (by first | (with_reducible assumption) | assumption)
             have q191 : x4_3 < (l0_2.length : Int) := of_decide_eq_true (by first | (with_reducible assumption) | assumption)
             obtain ⟨ad191, e191, hx191_0, hx191_1⟩ := at_T112 HR0_2.out x4_3 p191 q191
             cases e191
             replace hx191_0 := (HB.out.cell (World.block_lt_of_cell? w _ hx191_0)).trans hx191_0
             replace hx191_1 := (HB.out.cell (World.block_lt_of_cell? w _ hx191_1)).trans hx191_1
             replace p191 := eq_true p191
             replace q191 := eq_true q191
             go_wp2_with (first | ((with_reducible refine gate_dst (N := 5) rfl ?_); (try (refine gate_guard (by rfl) ?_; dsimp only)); refine box_event ?hg (N := 5) ?hd (cs := #[.int .i64 0, .int .i64 0]) (t := 112) ?hr ?_; (case hd => rfl); (case hg => rfl); (case hr => first | (go_simp; done) | (go_simp; rfl)); intro gb192 hg w52 hbox hb; have n0_ := bkB BK187 hb; have n1_ := Aside0.mk (below_step bw hb); have n2_ := Aside0.mk (hbox); have n3_ := Aside0.mk ((by rw [hg]; exact (below_size bw) : w.heap.size ≤ gb192)); have n4_ := Aside0.mk ((by rw [hg]; exact (below_size bw) : w.heap.size ≤ gb192)); have n5_ := Aside0.mk ((by rw [hg]; exact Nat.ne_of_lt (blk_lt (g := gb187) (o := .cells #[.slice A0_0 l0_0.length c0_0, .slice A0_1 l0_1.length c0_1, .slice (some ad191) l0_2.length c0_2] 73 (0, 0)) (bk BK187)) : gb187 ≠ gb192)); have n6_ := Aside0.mk ((by rw [hg]; exact Nat.ne_of_gt (blk_lt (g := gb187) (o := .cells #[.slice A0_0 l0_0.length c0_0, .slice A0_1 l0_1.length c0_1, .slice (some ad191) l0_2.length c0_2] 73 (0, 0)) (bk BK187)) : gb192 ≠ gb187)); clear BK187 HB; have BK187 := n0_; have HB := n1_; have BK192 := n2_; have GW192 := n3_; have GE192 := n4_; have NB187_192 := n5_; have NB192_187 := n6_; clear n0_ n1_ n2_ n3_ n4_ n5_ n6_; clear hb hbox hg; have hnb53 := NB192_187.out; have hnc53 := NB187_192.out; have hcz54_0 : w52.cell? ⟨gb192, 0, none⟩ = some (.int .i64 0) := (blk_cell BK192.out 0).trans rfl; have hcz54_1 : w52.cell? ⟨gb192, 1, none⟩ = some (.int .i64 0) := (blk_cell BK192.out 1).trans rfl; have hfz54_0 := blk_frozen BK192.out 0; have hfz54_1 := blk_frozen BK192.out 1) | ((with_reducible refine gate_callee (f := 77) rfl ?_); refine goesL_ (some 59) rfl rfl Try.func77 (by kernel_rfl) rfl #[.int .i64 ((rd_T112 l0_2 x4_3).f0), .int .i64 0, .int .i64 9] rfl (by (try simp only [List.map_toArray, List.map_cons, List.map_nil]); first | done | rfl | (simp only [List.length_drop, List.length_take]; rfl)) ?_; (with_reducible refine (spec_l1In.calls ((rd_T112 l0_2 x4_3).f0) 0 9 true _ A24.out).mono ?_); rintro e w' ⟨rfl, ⟨nd, rfl⟩⟩; refine ⟨_, rfl, ?_⟩; have hcz55_0 : w52.cell? ⟨gb187, 0, none⟩ = some (.slice A0_0 l0_0.length c0_0) := (blk_cell BK187.out 0).trans rfl; have hcz55_1 : w52.cell? ⟨gb187, 1, none⟩ = some (.slice A0_1 l0_1.length c0_1) := (blk_cell BK187.out 1).trans rfl; have hcz55_2 : w52.cell? ⟨gb187, 2, none⟩ = some (.slice (some ad191) l0_2.length c0_2) := (blk_cell BK187.out 2).trans rfl; have hfz55_0 := blk_frozen BK187.out 0; have hfz55_1 := blk_frozen BK187.out 1; have hfz55_2 := blk_frozen BK187.out 2) | (go_at_call 77; (with_reducible refine (spec_l1In.calls ((rd_T112 l0_2 x4_3).f1) 0 (wrap64 ((l0_0.length : Int) - 1)) false _ A26.out).mono ?_); rintro e w' ⟨rfl, ⟨nd, rfl⟩⟩))
             go_ret
             exact ⟨by first | rfl | (simp [errW_none, errW_some] <;> rfl) | (simp [*, errW_none, errW_some] <;> rfl), bw⟩
           ·replace c25 := Bool.eq_false_iff.mpr c25
            subst c25
            have H1 : (some false) = some r := by rw [if_neg (show ¬ (false = true) by decide)] at H; exact H
            clear H
            have H := H1
            clear H1
            obtain rfl := Option.some.inj H
            have hcz56_0 : wr.cell? ⟨gb187, 0, none⟩ = some (.slice A0_0 l0_0.length c0_0) := (blk_cell BK187.out 0).trans rfl
            have hcz56_1 : wr.cell? ⟨gb187, 1, none⟩ = some (.slice A0_1 l0_1.length c0_1) := (blk_cell BK187.out 1).trans rfl
            have hcz56_2 : wr.cell? ⟨gb187, 2, none⟩ = some (.slice A0_2 l0_2.length c0_2) := (blk_cell BK187.out 2).trans rfl
            have hfz56_0 := blk_frozen BK187.out 0
            have hfz56_1 := blk_frozen BK187.out 1
            have hfz56_2 := blk_frozen BK187.out 2
            have p191 : 0 ≤ (x4_3 : Int) := of_decide_eq_true (by first | (with_reducible assumption) | assumption)
            have q191 : x4_3 < (l0_2.length : Int) := of_decide_eq_true (by first | (with_reducible assumption) | assumption)
            obtain ⟨ad191, e191, hx191_0, hx191_1⟩ := at_T112 HR0_2.out x4_3 p191 q191
            cases e191
            replace hx191_0 := (HB.out.cell (World.block_lt_of_cell? w _ hx191_0)).trans hx191_0
            replace hx191_1 := (HB.out.cell (World.block_lt_of_cell? w _ hx191_1)).trans hx191_1
            replace p191 := eq_true p191
            replace q191 := eq_true q191
            go_wp2_with (first | ((with_reducible refine gate_dst (N := 5) rfl ?_); (try (refine gate_guard (by rfl) ?_; dsimp only)); refine box_event ?hg (N := 5) ?hd (cs := #[.int .i64 0, .int .i64 0]) (t := 112) ?hr ?_; (case hd => rfl); (case hg => rfl); (case hr => first | (go_simp; done) | (go_simp; rfl)); intro gb192 hg w57 hbox hb; have n0_ := bkB BK187 hb; have n1_ := Aside0.mk (below_step bw hb); have n2_ := Aside0.mk (hbox); have n3_ := Aside0.mk ((by rw [hg]; exact (below_size bw) : w.heap.size ≤ gb192)); have n4_ := Aside0.mk ((by rw [hg]; exact (below_size bw) : w.heap.size ≤ gb192)); have n5_ := Aside0.mk ((by rw [hg]; exact Nat.ne_of_lt (blk_lt (g := gb187) (o := .cells #[.slice A0_0 l0_0.length c0_0, .slice A0_1 l0_1.length c0_1, .slice (some ad191) l0_2.length c0_2] 73 (0, 0)) (bk BK187)) : gb187 ≠ gb192)); have n6_ := Aside0.mk ((by rw [hg]; exact Nat.ne_of_gt (blk_lt (g := gb187) (o := .cells #[.slice A0_0 l0_0.length c0_0, .slice A0_1 l0_1.length c0_1, .slice (some ad191) l0_2.length c0_2] 73 (0, 0)) (bk BK187)) : gb192 ≠ gb187)); clear BK187 HB; have BK187 := n0_; have HB := n1_; have BK192 := n2_; have GW192 := n3_; have GE192 := n4_; have NB187_192 := n5_; have NB192_187 := n6_; clear n0_ n1_ n2_ n3_ n4_ n5_ n6_; clear hb hbox hg; have hnb58 := NB192_187.out; have hnc58 := NB187_192.out; have hcz59_0 : w57.cell? ⟨gb192, 0, none⟩ = some (.int .i64 0) := (blk_cell BK192.out 0).trans rfl; have hcz59_1 : w57.cell? ⟨gb192, 1, none⟩ = some (.int .i64 0) := (blk_cell BK192.out 1).trans rfl; have hfz59_0 := blk_frozen BK192.out 0; have hfz59_1 := blk_frozen BK192.out 1) | ((with_reducible refine gate_callee (f := 77) rfl ?_); refine goesL_ (some 59) rfl rfl Try.func77 (by kernel_rfl) rfl #[.int .i64 ((rd_T112 l0_2 x4_3).f0), .int .i64 0, .int .i64 9] rfl (by (try simp only [List.map_toArray, List.map_cons, List.map_nil]); first | done | rfl | (simp only [List.length_drop, List.length_take]; rfl)) ?_; (with_reducible refine (spec_l1In.calls ((rd_T112 l0_2 x4_3).f0) 0 9 false _ A24.out).mono ?_); rintro e w' ⟨rfl, ⟨nd, rfl⟩⟩; refine ⟨_, rfl, ?_⟩))
            go_ret
            exact ⟨by first | rfl | (simp [errW_none, errW_some] <;> rfl) | (simp [*, errW_none, errW_some] <;> rfl), bw⟩
          ·rw [if_neg c23] at H
           exact absurd H (by simp)
         ·rw [if_neg c22] at H
          have c22b0 : decide (x4_3 < (l0_2.length : Int)) = false := decide_eq_false c22
          clear c22
          obtain rfl := Option.some.inj H
          have hcz60_0 : wr.cell? ⟨gb187, 0, none⟩ = some (.slice A0_0 l0_0.length c0_0) := (blk_cell BK187.out 0).trans rfl
          have hcz60_1 : wr.cell? ⟨gb187, 1, none⟩ = some (.slice A0_1 l0_1.length c0_1) := (blk_cell BK187.out 1).trans rfl
          have hcz60_2 : wr.cell? ⟨gb187, 2, none⟩ = some (.slice A0_2 l0_2.length c0_2) := (blk_cell BK187.out 2).trans rfl
          have hfz60_0 := blk_frozen BK187.out 0
          have hfz60_1 := blk_frozen BK187.out 1
          have hfz60_2 := blk_frozen BK187.out 2
          go_wp2
          go_ret
          exact ⟨by first | rfl | (simp [errW_none, errW_some] <;> rfl) | (simp [*, errW_none, errW_some] <;> rfl), bw⟩

/-! ### laws_toBoolS: function 14 -/
def laws_toBoolS.l0 : Nat → List Bool → List Bool → Int → Option (List Bool)
 | 0, _, _, _ => none
 | k + 1, x0, x3, x4 => if x4 < (x0.length : Int) then (if 0 ≤ x4 then (if x4 < (x3.length : Int) then (laws_toBoolS.l0 k x0 (x3.set (x4 : Int).toNat (rdOf false x0 x4)) (wrap64 (x4 + 1))) else (none)) else (none)) else (some x3)
def laws_toBoolS.f (k : Nat) (l0 : List Bool) : Option (List Bool) := if 0 ≤ (l0.length : Int) then (if ((l0.length : Int) : Int).toNat ≤ 281474976710656 then (laws_toBoolS.l0 k l0 (List.replicate ((l0.length : Int) : Int).toNat false) 0) else (none)) else (none)
theorem laws_toBoolS.mono_l : ∀ k, (∀ y0 y1 y2, LeO (laws_toBoolS.l0 k y0 y1 y2) (laws_toBoolS.l0 (k + 1) y0 y1 y2))
 | 0 => fun _ _ _ r h => by simp [laws_toBoolS.l0] at h
 | k + 1 => by
  have ih0 := laws_toBoolS.mono_l k
  ·intro y0 y1 y2
   unfold laws_toBoolS.l0
   repeat' first
   | (with_reducible exact ih0 _ _ _)
   | (with_reducible exact LeO.refl _)
   | (with_reducible exact LeO.none _)
   | (with_reducible refine LeO.ite ?_ ?_)
   | (with_reducible refine LeO.bind ?_ (fun _ => ?_))
   | exact ih0 _ _ _
   | exact LeO.none _
   | refine LeO.ite ?_ ?_
   | refine LeO.bind ?_ (fun _ => ?_)
theorem laws_toBoolS.mono : ∀ a0 k, LeO (laws_toBoolS.f k a0) (laws_toBoolS.f (k + 1) a0) := by
 intro a0 k
 have ih0 := laws_toBoolS.mono_l k
 unfold laws_toBoolS.f
 repeat' first
   | (with_reducible exact ih0 _ _ _)
   | (with_reducible exact LeO.refl _)
   | (with_reducible exact LeO.none _)
   | (with_reducible refine LeO.ite ?_ ?_)
   | (with_reducible refine LeO.bind ?_ (fun _ => ?_))
   | exact ih0 _ _ _
   | exact LeO.none _
   | refine LeO.ite ?_ ?_
   | refine LeO.bind ?_ (fun _ => ?_)
set_option maxHeartbeats 8000000 in
set_option maxRecDepth 100000 in
theorem laws_toBoolS.calls (k : Nat) (A0 : Option Addr) (c0 : Nat) (l0 : List Bool) (r : List Bool) (w : World) (hr0 : Kd.C Kd.bool w A0 l0.length l0) (hc0 : l0.length ≤ c0) (h : laws_toBoolS.f k l0 = some r) :
  Calls Try.prog 14 #[.slice A0 l0.length c0] w fun e w' => ∃ v0_ : Value, e = .returned (v0_) ∧ Kd.R Kd.bool 4 w' w.heap.size (fun _ => True) v0_ r ∧ Below w.heap.size w w' := by
 have HR0 := Aside0.mk hr0
 have HC0 := Aside0.mk hc0
 clear hr0 hc0
 have HB := Aside0.mk (Below.refl w.heap.size w)
 have H : (if 0 ≤ (l0.length : Int) then (if ((l0.length : Int) : Int).toNat ≤ 281474976710656 then (laws_toBoolS.l0 k l0 (List.replicate ((l0.length : Int) : Int).toNat false) 0) else (none)) else (none)) = some r := h
 clear h
 by_cases c2 : 0 ≤ (l0.length : Int)
 ·rw [if_pos c2] at H
  have c2b0 := eq_true c2
  have c2b1 : decide (0 ≤ (l0.length : Int)) = true := decide_eq_true c2
  clear c2
  by_cases c3 : ((l0.length : Int) : Int).toNat ≤ 281474976710656
  ·rw [if_pos c3] at H
   have c3b0 := eq_true c3
   have c3b1 : decide (((l0.length : Int) : Int).toNat ≤ 281474976710656) = true := decide_eq_true c3
   clear c3
   obtain ⟨y197, hy197⟩ : ∃ y_ : List Bool, y_ = (List.replicate ((l0.length : Int) : Int).toNat false) := ⟨_, rfl⟩
   replace H : (laws_toBoolS.l0 k l0 y197 0) = some r := by first | (rw [hy197]; with_reducible exact H) | (have H2_ := (Option.bind_some _ _).symm.trans H; rw [hy197]; with_reducible exact H2_) | (have H2_ := (Option.bind_some _ _).symm.trans H; with_reducible exact H2_) | with_reducible exact H | (rw [hy197]; exact H) | exact H
   have Ny197 := Aside0.mk hy197
   clear hy197
   have H' := Aside0.mk H
   clear H
   go_enter Try.func14, Try.ntmps14
   go_wp2_with (first | ((with_reducible refine gate_dst (N := 7) rfl ?_); refine Kd.R_make Kd.bool _ 4 rfl (N := 7) rfl 25 _ _ rfl (l0.length : Int) rfl rfl Try.underlying25 (.bool false) 1 info4 rfl (by decide) (by omega) false (ok := fun _ => True) (okp := fun _ => True) rfl (fun _ hk => hk) trivial (of_decide_eq_true (by first | (with_reducible assumption) | assumption)) (Nat.le_trans (Nat.mul_le_mul_right _ (of_decide_eq_true (by first | (with_reducible assumption) | assumption) : (l0.length : Int).toNat ≤ 281474976710656)) (by omega)) (Below.refl _ _) (Nat.le_refl _) ?_; intro v198 w4 ho5 hb hg_ hnew_; clear hg_ hnew_; (first | rw [← Ny197.out] at ho5 | (simp only [Int.reduceToNat] at ho5; rw [← Ny197.out] at ho5)); have n0_ := Aside0.mk (Kd.R_lower ho5 (below_size bw)); have n1_ := Aside0.mk (below_step bw hb); clear HB; have HO199 := n0_; have HB := n1_; clear n0_ n1_; clear hb ho5))
   go_loopg [4] k (fun kq v4 w' => ∃ (x3_1 : List Bool) (x4_1 : Int), v4 = .int .i64 x4_1 ∧ Aside0 (laws_toBoolS.l0 kq l0 x3_1 x4_1 = some r) ∧ Aside0 (kq ≤ k) ∧ Aside0 (Kd.R Kd.bool 4 w' w.heap.size (fun _ => True) v198 x3_1) ∧ Aside0 (Below w.heap.size w w'))
   case atStart => exact ⟨(y197), (0), (by first | rfl | (simp; done) | (simp [*]; done)), H', ⟨Nat.le_refl _⟩, ⟨rk HO199⟩, ⟨bw⟩⟩
   case round =>
    clear H'
    try clear c1
    try clear c2
    try clear c2b0
    try clear c2b1
    try clear p2
    try clear c3
    try clear c3b0
    try clear c3b1
    obtain ⟨x3_1, x4_1, rfl, HA, HK1, HO_3, HB⟩ := hrel
    cases gk with
    | zero => exact absurd HA.out (by simp [laws_toBoolS.l0])
    | succ k1 =>
     have H := HA.out
     clear HA
     simp only [laws_toBoolS.l0] at H
     by_cases c6 : x4_1 < (l0.length : Int)
     ·rw [if_pos c6] at H
      have c6b0 : decide (x4_1 < (l0.length : Int)) = true := decide_eq_true c6
      clear c6
      by_cases c7 : 0 ≤ x4_1
      ·rw [if_pos c7] at H
       have c7b0 : decide (0 ≤ x4_1) = true := decide_eq_true c7
       clear c7
       by_cases c8 : x4_1 < (x3_1.length : Int)
       ·rw [if_pos c8] at H
        have c8b0 : decide (x4_1 < (x3_1.length : Int)) = true := decide_eq_true c8
        clear c8
        obtain ⟨y201, hy201⟩ : ∃ y_ : List Bool, y_ = (x3_1.set (x4_1 : Int).toNat (rdOf false l0 x4_1)) := ⟨_, rfl⟩
        replace H : (laws_toBoolS.l0 k1 l0 y201 (wrap64 (x4_1 + 1))) = some r := by first | (rw [hy201]; with_reducible exact H) | (have H2_ := (Option.bind_some _ _).symm.trans H; rw [hy201]; with_reducible exact H2_) | (have H2_ := (Option.bind_some _ _).symm.trans H; with_reducible exact H2_) | with_reducible exact H | (rw [hy201]; exact H) | exact H
        have Ny201 := Aside0.mk hy201
        clear hy201
        have H' := Aside0.mk H
        clear H
        have p200 : 0 ≤ (x4_1 : Int) := of_decide_eq_true (by first | (with_reducible assumption) | assumption)
        have q200 : x4_1 < (l0.length : Int) := of_decide_eq_true (by first | (with_reducible assumption) | assumption)
        obtain ⟨ad200, e200, hx200_0⟩ := Kd.at_bool HR0.out x4_1 p200 q200
        cases e200
        replace hx200_0 := (HB.out.cell (World.block_lt_of_cell? w _ hx200_0)).trans hx200_0
        replace p200 := eq_true p200
        replace q200 := eq_true q200
        have p9 : 0 ≤ (x4_1 : Int) := of_decide_eq_true (by first | (with_reducible assumption) | assumption)
        have q9 : (x4_1 : Int) < ((x3_1.length : Int) : Int) := of_decide_eq_true (by first | (with_reducible assumption) | assumption)
        obtain ⟨go9, co9, eo9, gb9, gl9, cl9, HG9⟩ := Kd.R_form HO_3.out (by omega)
        (first | cases eo9 | (injection eo9 with ea_ en_ ec_; (first | subst ea_ | (injection ea_ with ea_; subst ea_)); subst ec_; clear en_))
        have GB9 := Aside0.mk gb9
        have GG9 := Aside0.mk HG9
        clear gb9 gl9 HG9
        obtain ⟨hx9_0, hf9_0⟩ := Kd.R_celln false HO_3.out (x4_1 : Int) p9 q9
        replace p9 := eq_true p9
        replace q9 := eq_true q9
        have HP10 := Kd.R_putg HO_3.out (x4_1 : Int) (rdOf false l0 x4_1)
        go_wp2_with (first | ((with_reducible refine gate_store (t := 4) (p := 20) rfl ?_); refine store_event (t := 4) (p := 20) (v := ?vo_w11) (w1 := (wr.setCell ⟨go9, (x4_1 : Int).toNat, none⟩ (.bool (rdOf false l0 x4_1)))) ?hg ?ho ?hn ?hr ?_; (case ho => rfl); (case hg => rfl); (case hn => rfl); (case hr => first | (go_simp; done) | (go_simp; rfl)); intro w11 hw; have hg : wr.grownBy w11 (some go9) := (by rw [hw]; exact HP10.2); have hp_ : Kd.R Kd.bool 4 w11 w.heap.size (fun _ => True) (.slice (some ⟨go9, 0, none⟩) x3_1.length co9) y201 := (by rw [hw, Ny201.out]; exact HP10.1); clear HP10; have n0_ := Aside0.mk (hp_); have n1_ := Aside0.mk ((by rw [hw]; exact below_set (HB.out) GB9.out : Below w.heap.size w w11)); clear HO_3 HB; have HO_3 := n0_; have HB := n1_; clear n0_ n1_; clear hg hw hp_))
        go_roundg k1
        case measure => have := HK1.out; omega
        case rel => exact ⟨(y201), (wrap64 (x4_1 + 1)), (by first | rfl | (simp; done) | (simp [*]; done)), H', ⟨by have := HK1.out; omega⟩, ⟨rk HO_3⟩, ⟨bw⟩⟩
       ·rw [if_neg c8] at H
        exact absurd H (by simp)
      ·rw [if_neg c7] at H
       exact absurd H (by simp)
     ·rw [if_neg c6] at H
      have c6b0 : decide (x4_1 < (l0.length : Int)) = false := decide_eq_false c6
      clear c6
      obtain rfl := Option.some.inj H
      go_wp2
      go_ret
      exact ⟨_, by first | rfl | (simp [errW_none, errW_some] <;> rfl) | (simp [*, errW_none, errW_some] <;> rfl), rk HO_3, bw⟩
  ·rw [if_neg c3] at H
   exact absurd H (by simp)
 ·rw [if_neg c2] at H
  exact absurd H (by simp)

/-! ### laws_toPermit: function 111 -/
def laws_toPermit.f (a0_0 : Int) (a0_1 : Int) : Option (Int × Int) := some (a0_0, a0_1)
set_option maxHeartbeats 8000000 in
set_option maxRecDepth 100000 in
theorem laws_toPermit.calls (a0_0 : Int) (a0_1 : Int) (r1 : Int) (r2 : Int) (w : World) (h : laws_toPermit.f a0_0 a0_1 = some (r1, r2)) :
  Calls Try.prog 111 #[.agg #[.int .i64 a0_0, .int .i64 a0_1]] w fun e w' => e = .returned (.agg #[.int .i64 r1, .int .i64 r2]) ∧ Below w.heap.size w w' := by
 have hu147 := Try.underlying147
 have hu112 := Try.underlying112
 have HB := Aside0.mk (Below.refl w.heap.size w)
 have H : (some (a0_0, a0_1)) = some (r1, r2) := h
 clear h
 simp only [Option.some.injEq, Prod.mk.injEq] at H
 obtain ⟨rfl, rfl⟩ := H
 go_enter Try.func111, Try.ntmps111
 go_wp2_with (first | ((with_reducible refine gate_dst (N := 1) rfl ?_); refine box_event ?hg (N := 1) ?hd (cs := #[.int .i64 a0_0, .int .i64 a0_1]) (t := 147) ?hr ?_; (case hd => rfl); (case hg => rfl); (case hr => first | (go_simp; done) | (go_simp; rfl)); intro gb202 hg w2 hbox hb; have n0_ := Aside0.mk (below_step bw hb); have n1_ := Aside0.mk (hbox); have n2_ := Aside0.mk ((by rw [hg]; exact (below_size bw) : w.heap.size ≤ gb202)); have n3_ := Aside0.mk ((by rw [hg]; exact (below_size bw) : w.heap.size ≤ gb202)); clear HB; have HB := n0_; have BK202 := n1_; have GW202 := n2_; have GE202 := n3_; clear n0_ n1_ n2_ n3_; clear hb hbox hg) | ((with_reducible refine gate_dst (N := 2) rfl ?_); refine box_event ?hg (N := 2) ?hd (cs := #[.int .i64 0, .int .i64 0]) (t := 112) ?hr ?_; (case hd => rfl); (case hg => rfl); (case hr => first | (go_simp; done) | (go_simp; rfl)); intro gb203 hg w3 hbox hb; have n0_ := bkB BK202 hb; have n1_ := Aside0.mk (below_step bw hb); have n2_ := Aside0.mk (hbox); have n3_ := Aside0.mk ((by rw [hg]; exact (below_size bw) : w.heap.size ≤ gb203)); have n4_ := Aside0.mk ((by rw [hg]; exact (below_size bw) : w.heap.size ≤ gb203)); have n5_ := Aside0.mk ((by rw [hg]; exact Nat.ne_of_lt (blk_lt (g := gb202) (o := .cells #[.int .i64 a0_0, .int .i64 a0_1] 147 (0, 0)) (bk BK202)) : gb202 ≠ gb203)); have n6_ := Aside0.mk ((by rw [hg]; exact Nat.ne_of_gt (blk_lt (g := gb202) (o := .cells #[.int .i64 a0_0, .int .i64 a0_1] 147 (0, 0)) (bk BK202)) : gb203 ≠ gb202)); clear BK202 HB; have BK202 := n0_; have HB := n1_; have BK203 := n2_; have GW203 := n3_; have GE203 := n4_; have NB202_203 := n5_; have NB203_202 := n6_; clear n0_ n1_ n2_ n3_ n4_ n5_ n6_; clear hb hbox hg) | ((with_reducible refine gate_dst (N := 3) rfl ?_); refine box_event ?hg (N := 3) ?hd (cs := #[.int .i64 0, .int .i64 0]) (t := 112) ?hr ?_; (case hd => rfl); (case hg => rfl); (case hr => first | (go_simp; done) | (go_simp; rfl)); intro gb204 hg w4 hbox hb; have n0_ := bkB BK202 hb; have n1_ := bkB BK203 hb; have n2_ := Aside0.mk (below_step bw hb); have n3_ := Aside0.mk (hbox); have n4_ := Aside0.mk ((by rw [hg]; exact (below_size bw) : w.heap.size ≤ gb204)); have n5_ := Aside0.mk ((by rw [hg]; exact (below_size bw) : w.heap.size ≤ gb204)); have n6_ := Aside0.mk ((by rw [hg]; exact Nat.ne_of_lt (blk_lt (g := gb202) (o := .cells #[.int .i64 a0_0, .int .i64 a0_1] 147 (0, 0)) (bk BK202)) : gb202 ≠ gb204)); have n7_ := Aside0.mk ((by rw [hg]; exact Nat.ne_of_gt (blk_lt (g := gb202) (o := .cells #[.int .i64 a0_0, .int .i64 a0_1] 147 (0, 0)) (bk BK202)) : gb204 ≠ gb202)); have n8_ := Aside0.mk ((by rw [hg]; exact Nat.ne_of_lt (blk_lt (g := gb203) (o := .cells #[.int .i64 0, .int .i64 0] 112 (0, 0)) (bk BK203)) : gb203 ≠ gb204)); have n9_ := Aside0.mk ((by rw [hg]; exact Nat.ne_of_gt (blk_lt (g := gb203) (o := .cells #[.int .i64 0, .int .i64 0] 112 (0, 0)) (bk BK203)) : gb204 ≠ gb203)); clear BK202 BK203 HB; have BK202 := n0_; have BK203 := n1_; have HB := n2_; have BK204 := n3_; have GW204 := n4_; have GE204 := n5_; have NB202_204 := n6_; have NB204_202 := n7_; have NB203_204 := n8_; have NB204_203 := n9_; clear n0_ n1_ n2_ n3_ n4_ n5_ n6_ n7_ n8_ n9_; clear hb hbox hg; have hnb5 := NB202_203.out; have hnc5 := NB203_202.out; have hnb6 := NB202_204.out; have hnc6 := NB204_202.out; have hcz7_0 : w4.cell? ⟨gb202, 0, none⟩ = some (.int .i64 a0_0) := (blk_cell BK202.out 0).trans rfl; have hcz7_1 : w4.cell? ⟨gb202, 1, none⟩ = some (.int .i64 a0_1) := (blk_cell BK202.out 1).trans rfl; have hfz7_0 := blk_frozen BK202.out 0; have hfz7_1 := blk_frozen BK202.out 1; have hnb8 := NB204_203.out; have hnc8 := NB203_204.out; have hcz9_0 : w4.cell? ⟨gb204, 0, none⟩ = some (.int .i64 0) := (blk_cell BK204.out 0).trans rfl; have hcz9_1 : w4.cell? ⟨gb204, 1, none⟩ = some (.int .i64 0) := (blk_cell BK204.out 1).trans rfl; have hfz9_0 := blk_frozen BK204.out 0; have hfz9_1 := blk_frozen BK204.out 1; have hcz10_0 : w4.cell? ⟨gb203, 0, none⟩ = some (.int .i64 0) := (blk_cell BK203.out 0).trans rfl; have hcz10_1 : w4.cell? ⟨gb203, 1, none⟩ = some (.int .i64 0) := (blk_cell BK203.out 1).trans rfl; have hfz10_0 := blk_frozen BK203.out 0; have hfz10_1 := blk_frozen BK203.out 1))
 refine bodyPost_ret (results_cell_row rfl _ _ gb203 112 #[.int .i64 a0_0, .int .i64 a0_1] (0, 0) _ rfl (by (with_reducible repeat (first | refine blk_drewN ?_ _ | refine blk_drew ?_ | refine blk_alloc ?_ _)); refine blk_put (cs := #[.int .i64 a0_0, .int .i64 0]) ?_ 1 _ rfl; (with_reducible repeat (first | refine blk_drewN ?_ _ | refine blk_drew ?_ | refine blk_alloc ?_ _)); refine blk_put (cs := #[.int .i64 0, .int .i64 0]) ?_ 0 _ rfl; (with_reducible repeat (first | refine blk_drewN ?_ _ | refine blk_drew ?_ | refine blk_alloc ?_ _)); refine blk_far ?_ NB203_204.out _; (with_reducible repeat (first | refine blk_drewN ?_ _ | refine blk_drew ?_ | refine blk_alloc ?_ _)); refine blk_far ?_ NB203_204.out _; (with_reducible repeat (first | refine blk_drewN ?_ _ | refine blk_drew ?_ | refine blk_alloc ?_ _)); exact BK203.out) Try.underlying112 rfl (by kernel_rfl)) rfl ?_
 exact ⟨by first | rfl | (simp [errW_none, errW_some] <;> rfl) | (simp [*, errW_none, errW_some] <;> rfl), bw⟩

end Go.Proofs.Ytgoiihfojhpcmaa.G
