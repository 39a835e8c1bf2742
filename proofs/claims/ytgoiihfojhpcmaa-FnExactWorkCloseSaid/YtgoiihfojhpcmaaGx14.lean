-- Printed by wip/gen.py of this session's repo, over the kit's print.py. Not trusted: Lean checks it.
import Derived.Test.YtgoiihfojhpcmaaGx0
import Derived.Test.YtgoiihfojhpcmaaSq
import Derived.Test.YtgoiihfojhpcmaaGx8
import Derived.Test.YtgoiihfojhpcmaaGx13
namespace Go.Proofs.Ytgoiihfojhpcmaa.G
open Go.RowKit Go.Proofs.YtgoiihfojhpcmaaW.PrintWords Go.Proofs.YtgoiihfojhpcmaaW.PrintLast Go.Proofs.YtgoiihfojhpcmaaW.PrintMore Go.Proofs.Ytgoiihfojhpcmaa.Sq
attribute [local go_sem] max2_int min2_int max_two min_two max_three min_three max_four min_four   -- for this text's walks alone
set_option linter.unusedVariables false
set_option linter.unusedSimpArgs false

/-! ### impl_deedsFor: function 92 -/
def impl_deedsFor.l0 : Nat → Int → Bool → List (S129) → List Bool → Int → Int → Option ((List (S129)))
 | 0, _, _, _, _, _, _ => none
 | k + 1, x0, x2, x7, x10, x11, x12 => if x12 < x11 then (if 0 ≤ x12 then (if x12 < (x10.length : Int) then (if ((rdOf false x10 x12) == x2) = true then (if x7.length < 5864062014805 then (impl_deedsFor.l0 k x0 x2 (x7 ++ [(⟨x0, x12, 0⟩ : S129)]) x10 x11 (wrap64 (x12 + 1))) else (none)) else (impl_deedsFor.l0 k x0 x2 x7 x10 x11 (wrap64 (x12 + 1)))) else (none)) else (none)) else (some x7)
def impl_deedsFor.f (k : Nat) (a0 : Int) (l1 : List Bool) (a2 : Bool) : Option ((List (S129))) := impl_deedsFor.l0 k a0 a2 ([] : List (S129)) l1 (l1.length : Int) 0
theorem impl_deedsFor.mono_l : ∀ k, (∀ y0 y1 y2 y3 y4 y5, LeO (impl_deedsFor.l0 k y0 y1 y2 y3 y4 y5) (impl_deedsFor.l0 (k + 1) y0 y1 y2 y3 y4 y5))
 | 0 => fun _ _ _ _ _ _ r h => by simp [impl_deedsFor.l0] at h
 | k + 1 => by
  have ih0 := impl_deedsFor.mono_l k
  ·intro y0 y1 y2 y3 y4 y5
   unfold impl_deedsFor.l0
   repeat' first
   | (with_reducible exact ih0 _ _ _ _ _ _)
   | (with_reducible exact LeO.refl _)
   | (with_reducible exact LeO.none _)
   | (with_reducible refine LeO.ite ?_ ?_)
   | (with_reducible refine LeO.bind ?_ (fun _ => ?_))
   | exact ih0 _ _ _ _ _ _
   | exact LeO.none _
   | refine LeO.ite ?_ ?_
   | refine LeO.bind ?_ (fun _ => ?_)
theorem impl_deedsFor.mono : ∀ a0 a1 a2 k, LeO (impl_deedsFor.f k a0 a1 a2) (impl_deedsFor.f (k + 1) a0 a1 a2) := by
 intro a0 a1 a2 k
 have ih0 := impl_deedsFor.mono_l k
 unfold impl_deedsFor.f
 repeat' first
   | (with_reducible exact ih0 _ _ _ _ _ _)
   | (with_reducible exact LeO.refl _)
   | (with_reducible exact LeO.none _)
   | (with_reducible refine LeO.ite ?_ ?_)
   | (with_reducible refine LeO.bind ?_ (fun _ => ?_))
   | exact ih0 _ _ _ _ _ _
   | exact LeO.none _
   | refine LeO.ite ?_ ?_
   | refine LeO.bind ?_ (fun _ => ?_)
set_option maxHeartbeats 8000000 in
set_option maxRecDepth 100000 in
theorem impl_deedsFor.calls (k : Nat) (a0 : Int) (A1 : Option Addr) (c1 : Nat) (l1 : List Bool) (a2 : Bool) (r : List (S129)) (w : World) (hr1 : Kd.C Kd.bool w A1 l1.length l1) (hc1 : l1.length ≤ c1) (h : impl_deedsFor.f k a0 l1 a2 = some r) :
  Calls Try.prog 92 #[.int .i64 a0, .slice A1 l1.length c1, .bool a2] w fun e w' => ∃ v0_ : Value, e = .returned (v0_) ∧ Kd.R k129 129 w' w.heap.size (fun _ => True) v0_ r ∧ Below w.heap.size w w' := by
 have hu129 := Try.underlying129
 have HR1 := Aside0.mk hr1
 have HC1 := Aside0.mk hc1
 clear hr1 hc1
 have HB := Aside0.mk (Below.refl w.heap.size w)
 have H : (impl_deedsFor.l0 k a0 a2 ([] : List (S129)) l1 (l1.length : Int) 0) = some r := h
 clear h
 have H' := Aside0.mk H
 clear H
 go_enter Try.func92, Try.ntmps92
 go_wp2
 go_loopg [7, 12] k (fun kq v7 v12 w' => ∃ (x7_1 : List (S129)) (x12_1 : Int), v12 = .int .i64 x12_1 ∧ Aside0 (impl_deedsFor.l0 kq a0 a2 x7_1 l1 (l1.length : Int) x12_1 = some r) ∧ Aside0 (kq ≤ k) ∧ Aside0 (Kd.R k129 129 w' w.heap.size (fun _ => True) v7 x7_1) ∧ Aside0 (Below w.heap.size w w'))
 case atStart => exact ⟨(([] : List (S129))), (0), (by first | rfl | (simp; done) | (simp [*]; done)), H', ⟨Nat.le_refl _⟩, ⟨by first | exact Kd.R_nil _ _ _ _ _ | exact Kd.N_nil _ _ _ _ _ | exact Kd.V_nil _ _ _ _ _ | exact Kd.Q_nil _ _ _ _ _ | exact Kd.S_nil _ _ _ _ _⟩, ⟨bw⟩⟩
 case round =>
  clear H'
  try clear c1
  try clear p2
  obtain ⟨x7_1, x12_1, rfl, HA, HK1, HO_7, HB⟩ := hrel
  cases gk with
  | zero => exact absurd HA.out (by simp [impl_deedsFor.l0])
  | succ k1 =>
   have H := HA.out
   clear HA
   simp only [impl_deedsFor.l0] at H
   by_cases c4 : x12_1 < (l1.length : Int)
   ·rw [if_pos c4] at H
    have c4b0 : decide (x12_1 < (l1.length : Int)) = true := decide_eq_true c4
    clear c4
    by_cases c5 : 0 ≤ x12_1
    ·rw [if_pos c5] at H
     have c5b0 : decide (0 ≤ x12_1) = true := decide_eq_true c5
     clear c5
     by_cases c6 : x12_1 < (l1.length : Int)
     ·rw [if_pos c6] at H
      have c6b0 : decide (x12_1 < (l1.length : Int)) = true := decide_eq_true c6
      clear c6
      by_cases c7 : ((rdOf false l1 x12_1) == a2) = true
      ·rw [if_pos c7] at H
       have c7b0 : ((rdOf false l1 x12_1) == a2) = true := c7
       (try (have c7b1 : decide ((rdOf false l1 x12_1) = a2) = true := by simpa using c7))
       (try (have c7b2 : ((rdOf false l1 x12_1) == a2) = true := by simpa using c7))
       clear c7
       by_cases c8 : x7_1.length < 5864062014805
       ·rw [if_pos c8] at H
        have LMc8 := Aside0.mk c8
        clear c8
        obtain ⟨y398, hy398⟩ : ∃ y_ : List (S129), y_ = (x7_1 ++ [(⟨a0, x12_1, 0⟩ : S129)]) := ⟨_, rfl⟩
        replace H : (impl_deedsFor.l0 k1 a0 a2 y398 l1 (l1.length : Int) (wrap64 (x12_1 + 1))) = some r := by first | (rw [hy398]; with_reducible exact H) | (have H2_ := (Option.bind_some _ _).symm.trans H; rw [hy398]; with_reducible exact H2_) | (have H2_ := (Option.bind_some _ _).symm.trans H; with_reducible exact H2_) | with_reducible exact H | (rw [hy398]; exact H) | exact H
        have Ny398 := Aside0.mk hy398
        clear hy398
        have H' := Aside0.mk H
        clear H
        have p397 : 0 ≤ (x12_1 : Int) := of_decide_eq_true (by first | (with_reducible assumption) | assumption)
        have q397 : x12_1 < (l1.length : Int) := of_decide_eq_true (by first | (with_reducible assumption) | assumption)
        obtain ⟨ad397, e397, hx397_0⟩ := Kd.at_bool HR1.out x12_1 p397 q397
        cases e397
        replace hx397_0 := (HB.out.cell (World.block_lt_of_cell? w _ hx397_0)).trans hx397_0
        replace p397 := eq_true p397
        replace q397 := eq_true q397
        go_wp2_with (first | ((with_reducible refine gate_builtin (b := .append) (xs := #[.tmp 20, .tmp 24]) rfl ?_); at_builtin; refine Kd.R_append k129 (w0 := w) w.heap.size rfl (.tmp 20) (.tmp 24) 83 129 (.agg #[(.int .i64 0), (.int .i64 0), (.int .i64 0)]) 24 rfl Try.underlying83 info129 rfl (by decide) (by omega) u7 x7_1 (⟨a0, x12_1, 0⟩ : S129) [.int .i64 a0, .int .i64 x12_1, .int .i64 0] (fun _ => True) (fun _ => False) rfl rfl ?aP (fun _ hk => hk.elim) ?aF ?aO ?aB ?aS ?aL ?_; (case aP => exact k129_mkM _ _ _ (⟨a0, x12_1, 0⟩ : S129)); (case aB => exact bw); (case aF => exact (fun _ _ => trivial)); (case aO => exact (rk HO_7)); (case aS => exact (below_size bw)); (case aL => have := LMc8.out; omega); intro v399 w9 ho hb hg hat; rw [← Ny398.out] at ho; have n0_ := Aside0.mk (hb); have n1_ := Aside0.mk (ho); clear HB HO_7; have HB := n0_; have HO400 := n1_; clear n0_ n1_; clear ho hb hg hat))
        go_roundg k1
        case measure => have := HK1.out; omega
        case rel => exact ⟨(y398), (wrap64 (x12_1 + 1)), (by first | rfl | (simp; done) | (simp [*]; done)), H', ⟨by have := HK1.out; omega⟩, ⟨rk HO400⟩, ⟨bw⟩⟩
       ·rw [if_neg c8] at H
        exact absurd H (by simp)
      ·rw [if_neg c7] at H
       have c7b0 : ((rdOf false l1 x12_1) == a2) = false := by simpa using c7
       (try (have c7b1 : decide ((rdOf false l1 x12_1) = a2) = false := by simpa using c7))
       (try (have c7b2 : ((rdOf false l1 x12_1) == a2) = false := by simpa using c7))
       (try (have c7b3 : ¬ ((rdOf false l1 x12_1) = a2) := by simpa using c7))
       clear c7
       have H' := Aside0.mk H
       clear H
       have p397 : 0 ≤ (x12_1 : Int) := of_decide_eq_true (by first | (with_reducible assumption) | assumption)
       have q397 : x12_1 < (l1.length : Int) := of_decide_eq_true (by first | (with_reducible assumption) | assumption)
       obtain ⟨ad397, e397, hx397_0⟩ := Kd.at_bool HR1.out x12_1 p397 q397
       cases e397
       replace hx397_0 := (HB.out.cell (World.block_lt_of_cell? w _ hx397_0)).trans hx397_0
       replace p397 := eq_true p397
       replace q397 := eq_true q397
       go_wp2
       go_roundg k1
       case measure => have := HK1.out; omega
       case rel => exact ⟨(x7_1), (wrap64 (x12_1 + 1)), (by first | rfl | (simp; done) | (simp [*]; done)), H', ⟨by have := HK1.out; omega⟩, ⟨rk HO_7⟩, ⟨bw⟩⟩
     ·rw [if_neg c6] at H
      exact absurd H (by simp)
    ·rw [if_neg c5] at H
     exact absurd H (by simp)
   ·rw [if_neg c4] at H
    have c4b0 : decide (x12_1 < (l1.length : Int)) = false := decide_eq_false c4
    clear c4
    obtain rfl := Option.some.inj H
    go_wp2
    go_ret
    exact ⟨_, by first | rfl | (simp [errW_none, errW_some] <;> rfl) | (simp [*, errW_none, errW_some] <;> rfl), rk HO_7, bw⟩

/-! ### impl_WorkClose: function 50 -/
def impl_WorkClose.f (k : Nat) (l0_0 : List Bool) (l0_1 : List Bool) (l0_2 : List (S112)) : Option ((List (S129))) := (impl_WorkValid.f k l0_0 l0_1 l0_2).bind fun t402 => (if t402 = true then ((impl_Work_returns.f k l0_0 l0_1 l0_2).bind fun t403 => ((impl_deedsFor.f k 3 l0_1 true).bind fun t406 => (if t403.length + t406.length < 5864062014805 then ((some (t403 ++ t406 : List (S129))).bind fun y409 => ((impl_deedsFor.f k 0 l0_0 false).bind fun t412 => (if y409.length + t412.length < 5864062014805 then (some (y409 ++ t412)) else (none)))) else (none)))) else (some ([] : List (S129))))
theorem impl_WorkClose.mono : ∀ a0 a1 a2 k, LeO (impl_WorkClose.f k a0 a1 a2) (impl_WorkClose.f (k + 1) a0 a1 a2) := by
 intro a0 a1 a2 k
 unfold impl_WorkClose.f
 repeat' first
   | (with_reducible exact impl_WorkValid.mono _ _ _ _)
   | (with_reducible exact impl_Work_returns.mono _ _ _ _)
   | (with_reducible exact impl_deedsFor.mono _ _ _ _)
   | (with_reducible exact LeO.refl _)
   | (with_reducible exact LeO.none _)
   | (with_reducible refine LeO.ite ?_ ?_)
   | (with_reducible refine LeO.bind ?_ (fun _ => ?_))
   | exact impl_WorkValid.mono _ _ _ _
   | exact impl_Work_returns.mono _ _ _ _
   | exact impl_deedsFor.mono _ _ _ _
   | exact LeO.none _
   | refine LeO.ite ?_ ?_
   | refine LeO.bind ?_ (fun _ => ?_)
set_option maxHeartbeats 8000000 in
set_option maxRecDepth 100000 in
theorem impl_WorkClose.calls (k : Nat) (A0_0 : Option Addr) (c0_0 : Nat) (l0_0 : List Bool) (A0_1 : Option Addr) (c0_1 : Nat) (l0_1 : List Bool) (A0_2 : Option Addr) (c0_2 : Nat) (l0_2 : List (S112)) (r : List (S129)) (w : World) (hr0_0 : Kd.C Kd.bool w A0_0 l0_0.length l0_0) (hc0_0 : l0_0.length ≤ c0_0) (hr0_1 : Kd.C Kd.bool w A0_1 l0_1.length l0_1) (hc0_1 : l0_1.length ≤ c0_1) (hr0_2 : Kd.C k112 w A0_2 l0_2.length l0_2) (hc0_2 : l0_2.length ≤ c0_2) (h : impl_WorkClose.f k l0_0 l0_1 l0_2 = some r) :
  Calls Try.prog 50 #[.agg #[.slice A0_0 l0_0.length c0_0, .slice A0_1 l0_1.length c0_1, .slice A0_2 l0_2.length c0_2]] w fun e w' => ∃ v0_ : Value, e = .returned (v0_) ∧ Kd.R k129 129 w' w.heap.size (fun _ => True) v0_ r ∧ Below w.heap.size w w' := by
 have hu73 := Try.underlying73
 have HR0_0 := Aside0.mk hr0_0
 have HC0_0 := Aside0.mk hc0_0
 clear hr0_0 hc0_0
 have HR0_1 := Aside0.mk hr0_1
 have HC0_1 := Aside0.mk hc0_1
 clear hr0_1 hc0_1
 have HR0_2 := Aside0.mk hr0_2
 have HC0_2 := Aside0.mk hc0_2
 clear hr0_2 hc0_2
 have HB := Aside0.mk (Below.refl w.heap.size w)
 have H : ((impl_WorkValid.f k l0_0 l0_1 l0_2).bind fun t402 => (if t402 = true then ((impl_Work_returns.f k l0_0 l0_1 l0_2).bind fun t403 => ((impl_deedsFor.f k 3 l0_1 true).bind fun t406 => (if t403.length + t406.length < 5864062014805 then ((some (t403 ++ t406 : List (S129))).bind fun y409 => ((impl_deedsFor.f k 0 l0_0 false).bind fun t412 => (if y409.length + t412.length < 5864062014805 then (some (y409 ++ t412)) else (none)))) else (none)))) else (some ([] : List (S129))))) = some r := h
 clear h
 replace H := Option.bind_eq_some_iff.mp H
 obtain ⟨t402, A20, H⟩ := H
 replace H : (if t402 = true then ((impl_Work_returns.f k l0_0 l0_1 l0_2).bind fun t403 => ((impl_deedsFor.f k 3 l0_1 true).bind fun t406 => (if t403.length + t406.length < 5864062014805 then ((some (t403 ++ t406 : List (S129))).bind fun y409 => ((impl_deedsFor.f k 0 l0_0 false).bind fun t412 => (if y409.length + t412.length < 5864062014805 then (some (y409 ++ t412)) else (none)))) else (none)))) else (some ([] : List (S129)))) = some r := H
 have A2 := Aside0.mk A20
 clear A20
 by_cases c3 : t402 = true
 ·subst c3
  have H1 : ((impl_Work_returns.f k l0_0 l0_1 l0_2).bind fun t403 => ((impl_deedsFor.f k 3 l0_1 true).bind fun t406 => (if t403.length + t406.length < 5864062014805 then ((some (t403 ++ t406 : List (S129))).bind fun y409 => ((impl_deedsFor.f k 0 l0_0 false).bind fun t412 => (if y409.length + t412.length < 5864062014805 then (some (y409 ++ t412)) else (none)))) else (none)))) = some r := by rw [if_pos rfl] at H; exact H
  clear H
  have H := H1
  clear H1
  replace H := Option.bind_eq_some_iff.mp H
  obtain ⟨t403, A40, H⟩ := H
  replace H : ((impl_deedsFor.f k 3 l0_1 true).bind fun t406 => (if t403.length + t406.length < 5864062014805 then ((some (t403 ++ t406 : List (S129))).bind fun y409 => ((impl_deedsFor.f k 0 l0_0 false).bind fun t412 => (if y409.length + t412.length < 5864062014805 then (some (y409 ++ t412)) else (none)))) else (none))) = some r := H
  have A4 := Aside0.mk A40
  clear A40
  replace H := Option.bind_eq_some_iff.mp H
  obtain ⟨t406, A50, H⟩ := H
  replace H : (if t403.length + t406.length < 5864062014805 then ((some (t403 ++ t406 : List (S129))).bind fun y409 => ((impl_deedsFor.f k 0 l0_0 false).bind fun t412 => (if y409.length + t412.length < 5864062014805 then (some (y409 ++ t412)) else (none)))) else (none)) = some r := H
  have A5 := Aside0.mk A50
  clear A50
  by_cases c6 : t403.length + t406.length < 5864062014805
  ·rw [if_pos c6] at H
   have LMc6 := Aside0.mk c6
   clear c6
   obtain ⟨y409, hy409⟩ : ∃ y_ : List (S129), y_ = (t403 ++ t406) := ⟨_, rfl⟩
   replace H : ((impl_deedsFor.f k 0 l0_0 false).bind fun t412 => (if y409.length + t412.length < 5864062014805 then (some (y409 ++ t412)) else (none))) = some r := by first | (rw [hy409]; with_reducible exact H) | (have H2_ := (Option.bind_some _ _).symm.trans H; rw [hy409]; with_reducible exact H2_) | (have H2_ := (Option.bind_some _ _).symm.trans H; with_reducible exact H2_) | with_reducible exact H | (rw [hy409]; exact H) | exact H
   have Ny409 := Aside0.mk hy409
   clear hy409
   replace H := Option.bind_eq_some_iff.mp H
   obtain ⟨t412, A70, H⟩ := H
   replace H : (if y409.length + t412.length < 5864062014805 then (some (y409 ++ t412)) else (none)) = some r := H
   have A7 := Aside0.mk A70
   clear A70
   by_cases c8 : y409.length + t412.length < 5864062014805
   ·rw [if_pos c8] at H
    have LMc8 := Aside0.mk c8
    clear c8
    obtain ⟨y415, hy415⟩ : ∃ y_ : List (S129), y_ = (y409 ++ t412) := ⟨_, rfl⟩
    replace H : (some y415) = some r := by first | (rw [hy415]; with_reducible exact H) | (have H2_ := (Option.bind_some _ _).symm.trans H; rw [hy415]; with_reducible exact H2_) | (have H2_ := (Option.bind_some _ _).symm.trans H; with_reducible exact H2_) | with_reducible exact H | (rw [hy415]; exact H) | exact H
    have Ny415 := Aside0.mk hy415
    clear hy415
    obtain rfl := Option.some.inj H
    go_enter Try.func50, Try.ntmps50
    go_wp2_with (first | ((with_reducible refine gate_dst (N := 1) rfl ?_); refine box_event ?hg (N := 1) ?hd (cs := #[.slice A0_0 l0_0.length c0_0, .slice A0_1 l0_1.length c0_1, .slice A0_2 l0_2.length c0_2]) (t := 73) ?hr ?_; (case hd => rfl); (case hg => rfl); (case hr => first | (go_simp; done) | (go_simp; rfl)); intro gb401 hg w9 hbox hb; have n0_ := Aside0.mk (below_step bw hb); have n1_ := Aside0.mk (hbox); have n2_ := Aside0.mk ((by rw [hg]; exact (below_size bw) : w.heap.size ≤ gb401)); have n3_ := Aside0.mk ((by rw [hg]; exact (below_size bw) : w.heap.size ≤ gb401)); clear HB; have HB := n0_; have BK401 := n1_; have GW401 := n2_; have GE401 := n3_; clear n0_ n1_ n2_ n3_; clear hb hbox hg; have hcz10_0 : w9.cell? ⟨gb401, 0, none⟩ = some (.slice A0_0 l0_0.length c0_0) := (blk_cell BK401.out 0).trans rfl; have hcz10_1 : w9.cell? ⟨gb401, 1, none⟩ = some (.slice A0_1 l0_1.length c0_1) := (blk_cell BK401.out 1).trans rfl; have hcz10_2 : w9.cell? ⟨gb401, 2, none⟩ = some (.slice A0_2 l0_2.length c0_2) := (blk_cell BK401.out 2).trans rfl; have hfz10_0 := blk_frozen BK401.out 0; have hfz10_1 := blk_frozen BK401.out 1; have hfz10_2 := blk_frozen BK401.out 2) | ((with_reducible refine gate_callee (f := 41) rfl ?_); refine goesL_ (some 5) rfl rfl Try.func41 (by kernel_rfl) rfl #[.agg #[.slice A0_0 l0_0.length c0_0, .slice A0_1 l0_1.length c0_1, .slice A0_2 l0_2.length c0_2]] rfl (by (try simp only [List.map_toArray, List.map_cons, List.map_nil]); first | done | rfl | (simp only [List.length_drop, List.length_take]; rfl)) ?_; (with_reducible refine (impl_WorkValid.calls k _ _ l0_0 _ _ l0_1 _ _ l0_2 true _ ?side1 ?side2 ?side3 ?side4 ?side5 ?side6 A2.out).mono ?_); (case side1 => exact cb HR0_0); (case side2 => exact HC0_0.out); (case side3 => exact cb HR0_1); (case side4 => exact HC0_1.out); (case side5 => exact cb HR0_2); (case side6 => exact HC0_2.out); rintro e w11 ⟨rfl, hb⟩; refine ⟨_, rfl, ?_⟩; have n0_ := bkB BK401 hb; have n1_ := Aside0.mk (below_step bw hb); clear BK401 HB; have BK401 := n0_; have HB := n1_; clear n0_ n1_; (try clear hb); (try clear hb2); (try clear hk); (try clear hi); have hcz12_0 : w11.cell? ⟨gb401, 0, none⟩ = some (.slice A0_0 l0_0.length c0_0) := (blk_cell BK401.out 0).trans rfl; have hcz12_1 : w11.cell? ⟨gb401, 1, none⟩ = some (.slice A0_1 l0_1.length c0_1) := (blk_cell BK401.out 1).trans rfl; have hcz12_2 : w11.cell? ⟨gb401, 2, none⟩ = some (.slice A0_2 l0_2.length c0_2) := (blk_cell BK401.out 2).trans rfl; have hfz12_0 := blk_frozen BK401.out 0; have hfz12_1 := blk_frozen BK401.out 1; have hfz12_2 := blk_frozen BK401.out 2) | ((with_reducible refine gate_callee (f := 91) rfl ?_); refine goesL_ (some 8) rfl rfl Try.func91 (by kernel_rfl) rfl #[.agg #[.slice A0_0 l0_0.length c0_0, .slice A0_1 l0_1.length c0_1, .slice A0_2 l0_2.length c0_2]] rfl (by (try simp only [List.map_toArray, List.map_cons, List.map_nil]); first | done | rfl | (simp only [List.length_drop, List.length_take]; rfl)) ?_; (with_reducible refine (impl_Work_returns.calls k _ _ l0_0 _ _ l0_1 _ _ l0_2 t403 _ ?side1 ?side2 ?side3 ?side4 ?side5 ?side6 A4.out).mono ?_); (case side1 => exact cb HR0_0); (case side2 => exact HC0_0.out); (case side3 => exact cb HR0_1); (case side4 => exact HC0_1.out); (case side5 => exact cb HR0_2); (case side6 => exact HC0_2.out); rintro e w13 ⟨v404, rfl, ho0, hb⟩; refine ⟨_, rfl, ?_⟩; have n0_ := Aside0.mk (Kd.R_lower ho0 (below_size bw)); have n1_ := bkB BK401 hb; have n2_ := Aside0.mk (below_step bw hb); clear BK401 HB; have HO405 := n0_; have BK401 := n1_; have HB := n2_; clear n0_ n1_ n2_; (try clear hb); (try clear hb2); (try clear hk); (try clear hi); (try clear ho0); have hcz14_0 : w13.cell? ⟨gb401, 0, none⟩ = some (.slice A0_0 l0_0.length c0_0) := (blk_cell BK401.out 0).trans rfl; have hcz14_1 : w13.cell? ⟨gb401, 1, none⟩ = some (.slice A0_1 l0_1.length c0_1) := (blk_cell BK401.out 1).trans rfl; have hcz14_2 : w13.cell? ⟨gb401, 2, none⟩ = some (.slice A0_2 l0_2.length c0_2) := (blk_cell BK401.out 2).trans rfl; have hfz14_0 := blk_frozen BK401.out 0; have hfz14_1 := blk_frozen BK401.out 1; have hfz14_2 := blk_frozen BK401.out 2) | ((with_reducible refine gate_callee (f := 92) rfl ?_); refine goesL_ (some 12) rfl rfl Try.func92 (by kernel_rfl) rfl #[.int .i64 3, .slice A0_1 l0_1.length c0_1, .bool true] rfl (by (try simp only [List.map_toArray, List.map_cons, List.map_nil]); first | done | rfl | (simp only [List.length_drop, List.length_take]; rfl)) ?_; (with_reducible refine (impl_deedsFor.calls k 3 _ _ l0_1 true t406 _ ?side1 ?side2 A5.out).mono ?_); (case side1 => exact cb HR0_1); (case side2 => exact HC0_1.out); rintro e w15 ⟨v407, rfl, ho0, hb⟩; refine ⟨_, rfl, ?_⟩; have n0_ := Aside0.mk (Kd.R_elder' (rk HO405) (Kd.R_base ho0) hb); have n1_ := Aside0.mk (Kd.R_lower (Kd.R_new' ho0 (Kd.R_lt (rk HO405))) (below_size bw)); have n2_ := bkB BK401 hb; have n3_ := Aside0.mk (below_step bw hb); clear HO405 BK401 HB; have HO405 := n0_; have HO408 := n1_; have BK401 := n2_; have HB := n3_; clear n0_ n1_ n2_ n3_; (try clear hb); (try clear hb2); (try clear hk); (try clear hi); (try clear ho0); obtain ⟨Ao17, co17, eo17⟩ := Kd.R_slice HO408.out; subst eo17) | ((with_reducible refine gate_builtin (b := .append) (xs := #[.tmp 9, .tmp 12]) rfl ?_); at_builtin; refine Kd.R_append_rows k129 (w0 := w) w.heap.size rfl (.tmp 9) (.tmp 12) 83 129 (.agg #[(.int .i64 0), (.int .i64 0), (.int .i64 0)]) 24 rfl Try.underlying83 info129 rfl (by decide) (by omega) v404 t403 t406 _ _ _ (fun k_ => some k_ ≠ (.slice Ao17 t406.length co17 : Value).ownBlock) (fun _ => False) rfl rfl ?aO ?aR (fun _ _ h => h) (fun _ h => h.elim) ?aF ?aB ?aS ?aL ?_; (case aR => repeat (first | exact (Kd.R_reads' HO408.out).2.2 | (with_reducible refine Kd.C_alloc ?_ _) | (with_reducible refine Kd.C_drewN ?_ _) | (with_reducible refine Kd.C_drew ?_))); (case aB => exact bw); (case aF => exact (fun k_ hk => Kd.fresh' (Kd.R_lt (rk HO408)) k_ hk)); (case aO => exact (by (with_reducible repeat (first | apply Kd.R_alloc | apply Kd.R_drewN | apply Kd.R_drew)); exact Kd.R_mono HO405.out (fun _ hk => by first | exact hk.2 | grind))); (case aS => exact (below_size bw)); (case aL => have := LMc6.out; omega); intro v410 w16 ho hb hg hat; rw [← Ny409.out] at ho; have n0_ := Aside0.mk (blk_grown (g := gb401) (o := .cells #[.slice A0_0 l0_0.length c0_0, .slice A0_1 l0_1.length c0_1, .slice A0_2 l0_2.length c0_2] 73 (0, 0)) (bk BK401) hg (Kd.R_ne HO405.out BK401.out (by decide))); have n1_ := Aside0.mk (Kd.R_after (ok := (fun _ => True)) (rk HO408) hg hat); have n2_ := Aside0.mk (hb); have n3_ := Aside0.mk (ho); clear BK401 HO408 HB HO405; have BK401 := n0_; have HO408 := n1_; have HB := n2_; have HO411 := n3_; clear n0_ n1_ n2_ n3_; clear ho hb hg hat; have hcz18_0 : w16.cell? ⟨gb401, 0, none⟩ = some (.slice A0_0 l0_0.length c0_0) := (blk_cell BK401.out 0).trans rfl; have hcz18_1 : w16.cell? ⟨gb401, 1, none⟩ = some (.slice A0_1 l0_1.length c0_1) := (blk_cell BK401.out 1).trans rfl; have hcz18_2 : w16.cell? ⟨gb401, 2, none⟩ = some (.slice A0_2 l0_2.length c0_2) := (blk_cell BK401.out 2).trans rfl; have hfz18_0 := blk_frozen BK401.out 0; have hfz18_1 := blk_frozen BK401.out 1; have hfz18_2 := blk_frozen BK401.out 2) | ((with_reducible refine gate_callee (f := 92) rfl ?_); refine goesL_ (some 17) rfl rfl Try.func92 (by kernel_rfl) rfl #[.int .i64 0, .slice A0_0 l0_0.length c0_0, .bool false] rfl (by (try simp only [List.map_toArray, List.map_cons, List.map_nil]); first | done | rfl | (simp only [List.length_drop, List.length_take]; rfl)) ?_; (with_reducible refine (impl_deedsFor.calls k 0 _ _ l0_0 false t412 _ ?side1 ?side2 A7.out).mono ?_); (case side1 => exact cb HR0_0); (case side2 => exact HC0_0.out); rintro e w19 ⟨v413, rfl, ho0, hb⟩; refine ⟨_, rfl, ?_⟩; have n0_ := Aside0.mk (Kd.R_elder' (rk HO408) (Kd.R_base ho0) hb); have n1_ := Aside0.mk (Kd.R_elder' (rk HO411) (Kd.R_base ho0) hb); have n2_ := Aside0.mk (Kd.R_lower (Kd.R_new' (Kd.R_new' ho0 (Kd.R_lt (rk HO408))) (Kd.R_lt (rk HO411))) (below_size bw)); have n3_ := bkB BK401 hb; have n4_ := Aside0.mk (below_step bw hb); clear HO408 HO411 BK401 HB; have HO408 := n0_; have HO411 := n1_; have HO414 := n2_; have BK401 := n3_; have HB := n4_; clear n0_ n1_ n2_ n3_ n4_; (try clear hb); (try clear hb2); (try clear hk); (try clear hi); (try clear ho0); obtain ⟨Ao21, co21, eo21⟩ := Kd.R_slice HO414.out; subst eo21) | ((with_reducible refine gate_builtin (b := .append) (xs := #[.tmp 14, .tmp 17]) rfl ?_); at_builtin; refine Kd.R_append_rows k129 (w0 := w) w.heap.size rfl (.tmp 14) (.tmp 17) 83 129 (.agg #[(.int .i64 0), (.int .i64 0), (.int .i64 0)]) 24 rfl Try.underlying83 info129 rfl (by decide) (by omega) v410 y409 t412 _ _ _ (fun k_ => some k_ ≠ (.slice Ao17 t406.length co17 : Value).ownBlock ∧ some k_ ≠ (.slice Ao21 t412.length co21 : Value).ownBlock) (fun _ => False) rfl rfl ?aO ?aR (fun _ _ h => h) (fun _ h => h.elim) ?aF ?aB ?aS ?aL ?_; (case aR => repeat (first | exact (Kd.R_reads' HO414.out).2.2 | (with_reducible refine Kd.C_alloc ?_ _) | (with_reducible refine Kd.C_drewN ?_ _) | (with_reducible refine Kd.C_drew ?_))); (case aB => exact bw); (case aF => exact (fun k_ hk => ⟨Kd.fresh' (Kd.R_lt (rk HO408)) k_ hk, Kd.fresh' (Kd.R_lt (rk HO414)) k_ hk⟩)); (case aO => exact (rk HO411)); (case aS => exact (below_size bw)); (case aL => have := LMc8.out; omega); intro v416 w20 ho hb hg hat; rw [← Ny415.out] at ho; have n0_ := Aside0.mk (blk_grown (g := gb401) (o := .cells #[.slice A0_0 l0_0.length c0_0, .slice A0_1 l0_1.length c0_1, .slice A0_2 l0_2.length c0_2] 73 (0, 0)) (bk BK401) hg (Kd.R_ne HO411.out BK401.out (by decide))); have n1_ := Aside0.mk (Kd.R_after (ok := (fun k_ => some k_ ≠ (.slice Ao21 t412.length co21 : Value).ownBlock)) (by (with_reducible repeat (first | apply Kd.R_alloc | apply Kd.R_drewN | apply Kd.R_drew)); exact Kd.R_mono HO408.out (fun _ hk => by first | exact ⟨hk.2, hk.1.2⟩ | grind)) hg hat); have n2_ := Aside0.mk (Kd.R_after (ok := (fun k_ => some k_ ≠ (.slice Ao17 t406.length co17 : Value).ownBlock)) (by (with_reducible repeat (first | apply Kd.R_alloc | apply Kd.R_drewN | apply Kd.R_drew)); exact Kd.R_mono HO414.out (fun _ hk => by first | exact ⟨hk.1.2, hk.2⟩ | grind)) hg hat); have n3_ := Aside0.mk (hb); have n4_ := Aside0.mk (ho); clear BK401 HO408 HO414 HB HO411; have BK401 := n0_; have HO408 := n1_; have HO414 := n2_; have HB := n3_; have HO417 := n4_; clear n0_ n1_ n2_ n3_ n4_; clear ho hb hg hat))
    go_ret
    exact ⟨_, by first | rfl | (simp [errW_none, errW_some] <;> rfl) | (simp [*, errW_none, errW_some] <;> rfl), by (with_reducible repeat (first | apply Kd.R_alloc | apply Kd.R_drewN | apply Kd.R_drew)); exact Kd.R_mono HO417.out (fun _ hk => trivial), bw⟩
   ·rw [if_neg c8] at H
    exact absurd H (by simp)
  ·rw [if_neg c6] at H
   exact absurd H (by simp)
 ·replace c3 := Bool.eq_false_iff.mpr c3
  subst c3
  have H1 : (some ([] : List (S129))) = some r := by rw [if_neg (show ¬ (false = true) by decide)] at H; exact H
  clear H
  have H := H1
  clear H1
  obtain rfl := Option.some.inj H
  go_enter Try.func50, Try.ntmps50
  go_wp2_with (first | ((with_reducible refine gate_dst (N := 1) rfl ?_); refine box_event ?hg (N := 1) ?hd (cs := #[.slice A0_0 l0_0.length c0_0, .slice A0_1 l0_1.length c0_1, .slice A0_2 l0_2.length c0_2]) (t := 73) ?hr ?_; (case hd => rfl); (case hg => rfl); (case hr => first | (go_simp; done) | (go_simp; rfl)); intro gb401 hg w22 hbox hb; have n0_ := Aside0.mk (below_step bw hb); have n1_ := Aside0.mk (hbox); have n2_ := Aside0.mk ((by rw [hg]; exact (below_size bw) : w.heap.size ≤ gb401)); have n3_ := Aside0.mk ((by rw [hg]; exact (below_size bw) : w.heap.size ≤ gb401)); clear HB; have HB := n0_; have BK401 := n1_; have GW401 := n2_; have GE401 := n3_; clear n0_ n1_ n2_ n3_; clear hb hbox hg; have hcz23_0 : w22.cell? ⟨gb401, 0, none⟩ = some (.slice A0_0 l0_0.length c0_0) := (blk_cell BK401.out 0).trans rfl; have hcz23_1 : w22.cell? ⟨gb401, 1, none⟩ = some (.slice A0_1 l0_1.length c0_1) := (blk_cell BK401.out 1).trans rfl; have hcz23_2 : w22.cell? ⟨gb401, 2, none⟩ = some (.slice A0_2 l0_2.length c0_2) := (blk_cell BK401.out 2).trans rfl; have hfz23_0 := blk_frozen BK401.out 0; have hfz23_1 := blk_frozen BK401.out 1; have hfz23_2 := blk_frozen BK401.out 2) | ((with_reducible refine gate_callee (f := 41) rfl ?_); refine goesL_ (some 5) rfl rfl Try.func41 (by kernel_rfl) rfl #[.agg #[.slice A0_0 l0_0.length c0_0, .slice A0_1 l0_1.length c0_1, .slice A0_2 l0_2.length c0_2]] rfl (by (try simp only [List.map_toArray, List.map_cons, List.map_nil]); first | done | rfl | (simp only [List.length_drop, List.length_take]; rfl)) ?_; (with_reducible refine (impl_WorkValid.calls k _ _ l0_0 _ _ l0_1 _ _ l0_2 false _ ?side1 ?side2 ?side3 ?side4 ?side5 ?side6 A2.out).mono ?_); (case side1 => exact cb HR0_0); (case side2 => exact HC0_0.out); (case side3 => exact cb HR0_1); (case side4 => exact HC0_1.out); (case side5 => exact cb HR0_2); (case side6 => exact HC0_2.out); rintro e w24 ⟨rfl, hb⟩; refine ⟨_, rfl, ?_⟩; have n0_ := bkB BK401 hb; have n1_ := Aside0.mk (below_step bw hb); clear BK401 HB; have BK401 := n0_; have HB := n1_; clear n0_ n1_; (try clear hb); (try clear hb2); (try clear hk); (try clear hi)))
  go_ret
  exact ⟨_, by first | rfl | (simp [errW_none, errW_some] <;> rfl) | (simp [*, errW_none, errW_some] <;> rfl), by first | exact Kd.R_nil _ _ _ _ _ | exact Kd.N_nil _ _ _ _ _ | exact Kd.V_nil _ _ _ _ _ | exact Kd.Q_nil _ _ _ _ _ | exact Kd.S_nil _ _ _ _ _, bw⟩

/-! ### laws_eqWorkDeed: function 93 -/
def laws_eqWorkDeed.f (a0_0 : Int) (a0_1 : Int) (a0_2 : Int) (a1_0 : Int) (a1_1 : Int) (a1_2 : Int) : Option (Bool) := if a0_0 = a1_0 then (if a0_1 = a1_1 then (if a0_2 = a1_2 then (some true) else (some false)) else (some false)) else (some false)
set_option maxHeartbeats 8000000 in
set_option maxRecDepth 100000 in
theorem laws_eqWorkDeed.calls (a0_0 : Int) (a0_1 : Int) (a0_2 : Int) (a1_0 : Int) (a1_1 : Int) (a1_2 : Int) (r : Bool) (w : World) (h : laws_eqWorkDeed.f a0_0 a0_1 a0_2 a1_0 a1_1 a1_2 = some r) :
  Calls Try.prog 93 #[.agg #[.int .i64 a0_0, .int .i64 a0_1, .int .i64 a0_2], .agg #[.int .i64 a1_0, .int .i64 a1_1, .int .i64 a1_2]] w fun e w' => e = .returned (.bool r) ∧ Below w.heap.size w w' := by
 have hu129 := Try.underlying129
 have HB := Aside0.mk (Below.refl w.heap.size w)
 have H : (if a0_0 = a1_0 then (if a0_1 = a1_1 then (if a0_2 = a1_2 then (some true) else (some false)) else (some false)) else (some false)) = some r := h
 clear h
 by_cases c3 : a0_0 = a1_0
 ·rw [if_pos c3] at H
  have c3b0 : (a0_0 == a1_0) = true := beq_iff_eq.mpr c3
  have c3b1 : (a0_0 != a1_0) = false := bne_eq_false_iff_eq.mpr c3
  clear c3
  by_cases c4 : a0_1 = a1_1
  ·rw [if_pos c4] at H
   have c4b0 : (a0_1 == a1_1) = true := beq_iff_eq.mpr c4
   have c4b1 : (a0_1 != a1_1) = false := bne_eq_false_iff_eq.mpr c4
   clear c4
   by_cases c5 : a0_2 = a1_2
   ·rw [if_pos c5] at H
    have c5b0 : (a0_2 == a1_2) = true := beq_iff_eq.mpr c5
    have c5b1 : (a0_2 != a1_2) = false := bne_eq_false_iff_eq.mpr c5
    clear c5
    obtain rfl := Option.some.inj H
    go_enter Try.func93, Try.ntmps93
    go_wp2_with (first | ((with_reducible refine gate_dst (N := 2) rfl ?_); refine box_event ?hg (N := 2) ?hd (cs := #[.int .i64 a0_0, .int .i64 a0_1, .int .i64 a0_2]) (t := 129) ?hr ?_; (case hd => rfl); (case hg => rfl); (case hr => first | (go_simp; done) | (go_simp; rfl)); intro gb418 hg w6 hbox hb; have n0_ := Aside0.mk (below_step bw hb); have n1_ := Aside0.mk (hbox); have n2_ := Aside0.mk ((by rw [hg]; exact (below_size bw) : w.heap.size ≤ gb418)); have n3_ := Aside0.mk ((by rw [hg]; exact (below_size bw) : w.heap.size ≤ gb418)); clear HB; have HB := n0_; have BK418 := n1_; have GW418 := n2_; have GE418 := n3_; clear n0_ n1_ n2_ n3_; clear hb hbox hg) | ((with_reducible refine gate_dst (N := 3) rfl ?_); refine box_event ?hg (N := 3) ?hd (cs := #[.int .i64 a1_0, .int .i64 a1_1, .int .i64 a1_2]) (t := 129) ?hr ?_; (case hd => rfl); (case hg => rfl); (case hr => first | (go_simp; done) | (go_simp; rfl)); intro gb419 hg w7 hbox hb; have n0_ := bkB BK418 hb; have n1_ := Aside0.mk (below_step bw hb); have n2_ := Aside0.mk (hbox); have n3_ := Aside0.mk ((by rw [hg]; exact (below_size bw) : w.heap.size ≤ gb419)); have n4_ := Aside0.mk ((by rw [hg]; exact (below_size bw) : w.heap.size ≤ gb419)); have n5_ := Aside0.mk ((by rw [hg]; exact Nat.ne_of_lt (blk_lt (g := gb418) (o := .cells #[.int .i64 a0_0, .int .i64 a0_1, .int .i64 a0_2] 129 (0, 0)) (bk BK418)) : gb418 ≠ gb419)); have n6_ := Aside0.mk ((by rw [hg]; exact Nat.ne_of_gt (blk_lt (g := gb418) (o := .cells #[.int .i64 a0_0, .int .i64 a0_1, .int .i64 a0_2] 129 (0, 0)) (bk BK418)) : gb419 ≠ gb418)); clear BK418 HB; have BK418 := n0_; have HB := n1_; have BK419 := n2_; have GW419 := n3_; have GE419 := n4_; have NB418_419 := n5_; have NB419_418 := n6_; clear n0_ n1_ n2_ n3_ n4_ n5_ n6_; clear hb hbox hg; have hnb8 := NB418_419.out; have hnc8 := NB419_418.out; have hcz9_0 : w7.cell? ⟨gb418, 0, none⟩ = some (.int .i64 a0_0) := (blk_cell BK418.out 0).trans rfl; have hcz9_1 : w7.cell? ⟨gb418, 1, none⟩ = some (.int .i64 a0_1) := (blk_cell BK418.out 1).trans rfl; have hcz9_2 : w7.cell? ⟨gb418, 2, none⟩ = some (.int .i64 a0_2) := (blk_cell BK418.out 2).trans rfl; have hfz9_0 := blk_frozen BK418.out 0; have hfz9_1 := blk_frozen BK418.out 1; have hfz9_2 := blk_frozen BK418.out 2; have hcz10_0 : w7.cell? ⟨gb419, 0, none⟩ = some (.int .i64 a1_0) := (blk_cell BK419.out 0).trans rfl; have hcz10_1 : w7.cell? ⟨gb419, 1, none⟩ = some (.int .i64 a1_1) := (blk_cell BK419.out 1).trans rfl; have hcz10_2 : w7.cell? ⟨gb419, 2, none⟩ = some (.int .i64 a1_2) := (blk_cell BK419.out 2).trans rfl; have hfz10_0 := blk_frozen BK419.out 0; have hfz10_1 := blk_frozen BK419.out 1; have hfz10_2 := blk_frozen BK419.out 2))
    go_ret
    exact ⟨by first | rfl | (simp [errW_none, errW_some] <;> rfl) | (simp [*, errW_none, errW_some] <;> rfl), bw⟩
   ·rw [if_neg c5] at H
    have c5b0 : (a0_2 == a1_2) = false := beq_eq_false_iff_ne.mpr c5
    have c5b1 : (a0_2 != a1_2) = true := bne_iff_ne.mpr c5
    obtain rfl := Option.some.inj H
    go_enter Try.func93, Try.ntmps93
    go_wp2_with (first | ((with_reducible refine gate_dst (N := 2) rfl ?_); refine box_event ?hg (N := 2) ?hd (cs := #[.int .i64 a0_0, .int .i64 a0_1, .int .i64 a0_2]) (t := 129) ?hr ?_; (case hd => rfl); (case hg => rfl); (case hr => first | (go_simp; done) | (go_simp; rfl)); intro gb418 hg w11 hbox hb; have n0_ := Aside0.mk (below_step bw hb); have n1_ := Aside0.mk (hbox); have n2_ := Aside0.mk ((by rw [hg]; exact (below_size bw) : w.heap.size ≤ gb418)); have n3_ := Aside0.mk ((by rw [hg]; exact (below_size bw) : w.heap.size ≤ gb418)); clear HB; have HB := n0_; have BK418 := n1_; have GW418 := n2_; have GE418 := n3_; clear n0_ n1_ n2_ n3_; clear hb hbox hg) | ((with_reducible refine gate_dst (N := 3) rfl ?_); refine box_event ?hg (N := 3) ?hd (cs := #[.int .i64 a1_0, .int .i64 a1_1, .int .i64 a1_2]) (t := 129) ?hr ?_; (case hd => rfl); (case hg => rfl); (case hr => first | (go_simp; done) | (go_simp; rfl)); intro gb419 hg w12 hbox hb; have n0_ := bkB BK418 hb; have n1_ := Aside0.mk (below_step bw hb); have n2_ := Aside0.mk (hbox); have n3_ := Aside0.mk ((by rw [hg]; exact (below_size bw) : w.heap.size ≤ gb419)); have n4_ := Aside0.mk ((by rw [hg]; exact (below_size bw) : w.heap.size ≤ gb419)); have n5_ := Aside0.mk ((by rw [hg]; exact Nat.ne_of_lt (blk_lt (g := gb418) (o := .cells #[.int .i64 a0_0, .int .i64 a0_1, .int .i64 a0_2] 129 (0, 0)) (bk BK418)) : gb418 ≠ gb419)); have n6_ := Aside0.mk ((by rw [hg]; exact Nat.ne_of_gt (blk_lt (g := gb418) (o := .cells #[.int .i64 a0_0, .int .i64 a0_1, .int .i64 a0_2] 129 (0, 0)) (bk BK418)) : gb419 ≠ gb418)); clear BK418 HB; have BK418 := n0_; have HB := n1_; have BK419 := n2_; have GW419 := n3_; have GE419 := n4_; have NB418_419 := n5_; have NB419_418 := n6_; clear n0_ n1_ n2_ n3_ n4_ n5_ n6_; clear hb hbox hg; have hnb13 := NB418_419.out; have hnc13 := NB419_418.out; have hcz14_0 : w12.cell? ⟨gb418, 0, none⟩ = some (.int .i64 a0_0) := (blk_cell BK418.out 0).trans rfl; have hcz14_1 : w12.cell? ⟨gb418, 1, none⟩ = some (.int .i64 a0_1) := (blk_cell BK418.out 1).trans rfl; have hcz14_2 : w12.cell? ⟨gb418, 2, none⟩ = some (.int .i64 a0_2) := (blk_cell BK418.out 2).trans rfl; have hfz14_0 := blk_frozen BK418.out 0; have hfz14_1 := blk_frozen BK418.out 1; have hfz14_2 := blk_frozen BK418.out 2; have hcz15_0 : w12.cell? ⟨gb419, 0, none⟩ = some (.int .i64 a1_0) := (blk_cell BK419.out 0).trans rfl; have hcz15_1 : w12.cell? ⟨gb419, 1, none⟩ = some (.int .i64 a1_1) := (blk_cell BK419.out 1).trans rfl; have hcz15_2 : w12.cell? ⟨gb419, 2, none⟩ = some (.int .i64 a1_2) := (blk_cell BK419.out 2).trans rfl; have hfz15_0 := blk_frozen BK419.out 0; have hfz15_1 := blk_frozen BK419.out 1; have hfz15_2 := blk_frozen BK419.out 2))
    go_ret
    exact ⟨by first | rfl | (simp [errW_none, errW_some] <;> rfl) | (simp [*, errW_none, errW_some] <;> rfl), bw⟩
  ·rw [if_neg c4] at H
   have c4b0 : (a0_1 == a1_1) = false := beq_eq_false_iff_ne.mpr c4
   have c4b1 : (a0_1 != a1_1) = true := bne_iff_ne.mpr c4
   obtain rfl := Option.some.inj H
   go_enter Try.func93, Try.ntmps93
   go_wp2_with (first | ((with_reducible refine gate_dst (N := 2) rfl ?_); refine box_event ?hg (N := 2) ?hd (cs := #[.int .i64 a0_0, .int .i64 a0_1, .int .i64 a0_2]) (t := 129) ?hr ?_; (case hd => rfl); (case hg => rfl); (case hr => first | (go_simp; done) | (go_simp; rfl)); intro gb418 hg w16 hbox hb; have n0_ := Aside0.mk (below_step bw hb); have n1_ := Aside0.mk (hbox); have n2_ := Aside0.mk ((by rw [hg]; exact (below_size bw) : w.heap.size ≤ gb418)); have n3_ := Aside0.mk ((by rw [hg]; exact (below_size bw) : w.heap.size ≤ gb418)); clear HB; have HB := n0_; have BK418 := n1_; have GW418 := n2_; have GE418 := n3_; clear n0_ n1_ n2_ n3_; clear hb hbox hg) | ((with_reducible refine gate_dst (N := 3) rfl ?_); refine box_event ?hg (N := 3) ?hd (cs := #[.int .i64 a1_0, .int .i64 a1_1, .int .i64 a1_2]) (t := 129) ?hr ?_; (case hd => rfl); (case hg => rfl); (case hr => first | (go_simp; done) | (go_simp; rfl)); intro gb419 hg w17 hbox hb; have n0_ := bkB BK418 hb; have n1_ := Aside0.mk (below_step bw hb); have n2_ := Aside0.mk (hbox); have n3_ := Aside0.mk ((by rw [hg]; exact (below_size bw) : w.heap.size ≤ gb419)); have n4_ := Aside0.mk ((by rw [hg]; exact (below_size bw) : w.heap.size ≤ gb419)); have n5_ := Aside0.mk ((by rw [hg]; exact Nat.ne_of_lt (blk_lt (g := gb418) (o := .cells #[.int .i64 a0_0, .int .i64 a0_1, .int .i64 a0_2] 129 (0, 0)) (bk BK418)) : gb418 ≠ gb419)); have n6_ := Aside0.mk ((by rw [hg]; exact Nat.ne_of_gt (blk_lt (g := gb418) (o := .cells #[.int .i64 a0_0, .int .i64 a0_1, .int .i64 a0_2] 129 (0, 0)) (bk BK418)) : gb419 ≠ gb418)); clear BK418 HB; have BK418 := n0_; have HB := n1_; have BK419 := n2_; have GW419 := n3_; have GE419 := n4_; have NB418_419 := n5_; have NB419_418 := n6_; clear n0_ n1_ n2_ n3_ n4_ n5_ n6_; clear hb hbox hg; have hnb18 := NB418_419.out; have hnc18 := NB419_418.out; have hcz19_0 : w17.cell? ⟨gb418, 0, none⟩ = some (.int .i64 a0_0) := (blk_cell BK418.out 0).trans rfl; have hcz19_1 : w17.cell? ⟨gb418, 1, none⟩ = some (.int .i64 a0_1) := (blk_cell BK418.out 1).trans rfl; have hcz19_2 : w17.cell? ⟨gb418, 2, none⟩ = some (.int .i64 a0_2) := (blk_cell BK418.out 2).trans rfl; have hfz19_0 := blk_frozen BK418.out 0; have hfz19_1 := blk_frozen BK418.out 1; have hfz19_2 := blk_frozen BK418.out 2; have hcz20_0 : w17.cell? ⟨gb419, 0, none⟩ = some (.int .i64 a1_0) := (blk_cell BK419.out 0).trans rfl; have hcz20_1 : w17.cell? ⟨gb419, 1, none⟩ = some (.int .i64 a1_1) := (blk_cell BK419.out 1).trans rfl; have hcz20_2 : w17.cell? ⟨gb419, 2, none⟩ = some (.int .i64 a1_2) := (blk_cell BK419.out 2).trans rfl; have hfz20_0 := blk_frozen BK419.out 0; have hfz20_1 := blk_frozen BK419.out 1; have hfz20_2 := blk_frozen BK419.out 2))
   go_ret
   exact ⟨by first | rfl | (simp [errW_none, errW_some] <;> rfl) | (simp [*, errW_none, errW_some] <;> rfl), bw⟩
 ·rw [if_neg c3] at H
  have c3b0 : (a0_0 == a1_0) = false := beq_eq_false_iff_ne.mpr c3
  have c3b1 : (a0_0 != a1_0) = true := bne_iff_ne.mpr c3
  obtain rfl := Option.some.inj H
  go_enter Try.func93, Try.ntmps93
  go_wp2_with (first | ((with_reducible refine gate_dst (N := 2) rfl ?_); refine box_event ?hg (N := 2) ?hd (cs := #[.int .i64 a0_0, .int .i64 a0_1, .int .i64 a0_2]) (t := 129) ?hr ?_; (case hd => rfl); (case hg => rfl); (case hr => first | (go_simp; done) | (go_simp; rfl)); intro gb418 hg w21 hbox hb; have n0_ := Aside0.mk (below_step bw hb); have n1_ := Aside0.mk (hbox); have n2_ := Aside0.mk ((by rw [hg]; exact (below_size bw) : w.heap.size ≤ gb418)); have n3_ := Aside0.mk ((by rw [hg]; exact (below_size bw) : w.heap.size ≤ gb418)); clear HB; have HB := n0_; have BK418 := n1_; have GW418 := n2_; have GE418 := n3_; clear n0_ n1_ n2_ n3_; clear hb hbox hg) | ((with_reducible refine gate_dst (N := 3) rfl ?_); refine box_event ?hg (N := 3) ?hd (cs := #[.int .i64 a1_0, .int .i64 a1_1, .int .i64 a1_2]) (t := 129) ?hr ?_; (case hd => rfl); (case hg => rfl); (case hr => first | (go_simp; done) | (go_simp; rfl)); intro gb419 hg w22 hbox hb; have n0_ := bkB BK418 hb; have n1_ := Aside0.mk (below_step bw hb); have n2_ := Aside0.mk (hbox); have n3_ := Aside0.mk ((by rw [hg]; exact (below_size bw) : w.heap.size ≤ gb419)); have n4_ := Aside0.mk ((by rw [hg]; exact (below_size bw) : w.heap.size ≤ gb419)); have n5_ := Aside0.mk ((by rw [hg]; exact Nat.ne_of_lt (blk_lt (g := gb418) (o := .cells #[.int .i64 a0_0, .int .i64 a0_1, .int .i64 a0_2] 129 (0, 0)) (bk BK418)) : gb418 ≠ gb419)); have n6_ := Aside0.mk ((by rw [hg]; exact Nat.ne_of_gt (blk_lt (g := gb418) (o := .cells #[.int .i64 a0_0, .int .i64 a0_1, .int .i64 a0_2] 129 (0, 0)) (bk BK418)) : gb419 ≠ gb418)); clear BK418 HB; have BK418 := n0_; have HB := n1_; have BK419 := n2_; have GW419 := n3_; have GE419 := n4_; have NB418_419 := n5_; have NB419_418 := n6_; clear n0_ n1_ n2_ n3_ n4_ n5_ n6_; clear hb hbox hg; have hnb23 := NB418_419.out; have hnc23 := NB419_418.out; have hcz24_0 : w22.cell? ⟨gb418, 0, none⟩ = some (.int .i64 a0_0) := (blk_cell BK418.out 0).trans rfl; have hcz24_1 : w22.cell? ⟨gb418, 1, none⟩ = some (.int .i64 a0_1) := (blk_cell BK418.out 1).trans rfl; have hcz24_2 : w22.cell? ⟨gb418, 2, none⟩ = some (.int .i64 a0_2) := (blk_cell BK418.out 2).trans rfl; have hfz24_0 := blk_frozen BK418.out 0; have hfz24_1 := blk_frozen BK418.out 1; have hfz24_2 := blk_frozen BK418.out 2; have hcz25_0 : w22.cell? ⟨gb419, 0, none⟩ = some (.int .i64 a1_0) := (blk_cell BK419.out 0).trans rfl; have hcz25_1 : w22.cell? ⟨gb419, 1, none⟩ = some (.int .i64 a1_1) := (blk_cell BK419.out 1).trans rfl; have hcz25_2 : w22.cell? ⟨gb419, 2, none⟩ = some (.int .i64 a1_2) := (blk_cell BK419.out 2).trans rfl; have hfz25_0 := blk_frozen BK419.out 0; have hfz25_1 := blk_frozen BK419.out 1; have hfz25_2 := blk_frozen BK419.out 2))
  go_ret
  exact ⟨by first | rfl | (simp [errW_none, errW_some] <;> rfl) | (simp [*, errW_none, errW_some] <;> rfl), bw⟩

/-! ### laws_eqWorkDeedS: function 51 -/
def laws_eqWorkDeedS.l0 : Nat → List (S129) → List (S129) → Int → Option (Bool)
 | 0, _, _, _ => none
 | k + 1, x0, x1, x5 => if x5 < (x0.length : Int) then (if 0 ≤ x5 then (if x5 < (x1.length : Int) then ((laws_eqWorkDeed.f ((rd_T129 x0 x5).f0) ((rd_T129 x0 x5).f1) ((rd_T129 x0 x5).f2) ((rd_T129 x1 x5).f0) ((rd_T129 x1 x5).f1) ((rd_T129 x1 x5).f2)).bind fun t422 => (if t422 = true then (laws_eqWorkDeedS.l0 k x0 x1 (wrap64 (x5 + 1))) else (some false))) else (none)) else (none)) else (some true)
def laws_eqWorkDeedS.f (k : Nat) (l0 : List (S129)) (l1 : List (S129)) : Option (Bool) := if (l0.length : Int) = (l1.length : Int) then (laws_eqWorkDeedS.l0 k l0 l1 0) else (some false)
theorem laws_eqWorkDeedS.mono_l : ∀ k, (∀ y0 y1 y2, LeO (laws_eqWorkDeedS.l0 k y0 y1 y2) (laws_eqWorkDeedS.l0 (k + 1) y0 y1 y2))
 | 0 => fun _ _ _ r h => by simp [laws_eqWorkDeedS.l0] at h
 | k + 1 => by
  have ih0 := laws_eqWorkDeedS.mono_l k
  ·intro y0 y1 y2
   unfold laws_eqWorkDeedS.l0
   repeat' first
   | (with_reducible exact ih0 _ _ _)
   | (with_reducible exact LeO.refl _)
   | (with_reducible exact LeO.none _)
   | (with_reducible refine LeO.ite ?_ ?_)
   | (with_reducible refine LeO.bind ?_ (fun _ => ?_))
   | exact ih0 _ _ _
   | exact LeO.none _
   | refine LeO.ite ?_ ?_
   | refine LeO.bind ?_ (fun _ => ?_)
theorem laws_eqWorkDeedS.mono : ∀ a0 a1 k, LeO (laws_eqWorkDeedS.f k a0 a1) (laws_eqWorkDeedS.f (k + 1) a0 a1) := by
 intro a0 a1 k
 have ih0 := laws_eqWorkDeedS.mono_l k
 unfold laws_eqWorkDeedS.f
 repeat' first
   | (with_reducible exact ih0 _ _ _)
   | (with_reducible exact LeO.refl _)
   | (with_reducible exact LeO.none _)
   | (with_reducible refine LeO.ite ?_ ?_)
   | (with_reducible refine LeO.bind ?_ (fun _ => ?_))
   | exact ih0 _ _ _
   | exact LeO.none _
   | refine LeO.ite ?_ ?_
   | refine LeO.bind ?_ (fun _ => ?_)
def laws_eqWorkDeedS.T6 : Bool × List (List Nat × List Nat) := (true, [([], []), ([], []), ([0, 1], [0, 1]), ([2], [2]), ([], []), ([], []), ([4, 5], [4, 5]), ([6], [6]), ([3, 7], [3, 7]), ([8], [8])])
def laws_eqWorkDeedS.B6 : List Nat := [0, 0, 3, 7, 0, 0, 48, 112, 255, 511]
theorem laws_eqWorkDeedS.tab6 : rtab .any (opsOf Try.f51 6) = laws_eqWorkDeedS.T6 := by kernel_rfl
theorem laws_eqWorkDeedS.bits6 : waitsOk laws_eqWorkDeedS.T6.2 laws_eqWorkDeedS.B6 = true := by kernel_rfl
set_option maxHeartbeats 8000000 in
set_option maxRecDepth 100000 in
theorem laws_eqWorkDeedS.calls (k : Nat) (A0 : Option Addr) (c0 : Nat) (l0 : List (S129)) (A1 : Option Addr) (c1 : Nat) (l1 : List (S129)) (r : Bool) (w : World) (hr0 : Kd.C k129 w A0 l0.length l0) (hc0 : l0.length ≤ c0) (hr1 : Kd.C k129 w A1 l1.length l1) (hc1 : l1.length ≤ c1) (h : laws_eqWorkDeedS.f k l0 l1 = some r) :
  Calls Try.prog 51 #[.slice A0 l0.length c0, .slice A1 l1.length c1] w fun e w' => e = .returned (.bool r) ∧ Below w.heap.size w w' := by
 have hu129 := Try.underlying129
 have HR0 := Aside0.mk hr0
 have HC0 := Aside0.mk hc0
 clear hr0 hc0
 have HR1 := Aside0.mk hr1
 have HC1 := Aside0.mk hc1
 clear hr1 hc1
 have HB := Aside0.mk (Below.refl w.heap.size w)
 have H : (if (l0.length : Int) = (l1.length : Int) then (laws_eqWorkDeedS.l0 k l0 l1 0) else (some false)) = some r := h
 clear h
 by_cases c3 : (l0.length : Int) = (l1.length : Int)
 ·rw [if_pos c3] at H
  have c3b0 : ((l0.length : Int) == (l1.length : Int)) = true := beq_iff_eq.mpr c3
  have c3b1 : ((l0.length : Int) != (l1.length : Int)) = false := bne_eq_false_iff_eq.mpr c3
  have c3b2 : (l0.length == l1.length) = true := by first | simpa using c3 | (simp at c3 ⊢; omega)
  clear c3
  have H' := Aside0.mk H
  clear H
  go_enter Try.func51, Try.ntmps51
  go_wp2
  go_loopg [5] k (fun kq v5 w' => ∃ (x5_1 : Int), v5 = .int .i64 x5_1 ∧ Aside0 (laws_eqWorkDeedS.l0 kq l0 l1 x5_1 = some r) ∧ Aside0 (kq ≤ k) ∧ Aside0 (Below w.heap.size w w'))
  case atStart => exact ⟨(0), (by first | rfl | (simp; done) | (simp [*]; done)), H', ⟨Nat.le_refl _⟩, ⟨bw⟩⟩
  case round =>
   clear H'
   try clear c1
   try clear p2
   try clear c3
   try clear c3b0
   try clear c3b1
   try clear c3b2
   obtain ⟨x5_1, rfl, HA, HK1, HB⟩ := hrel
   cases gk with
   | zero => exact absurd HA.out (by simp [laws_eqWorkDeedS.l0])
   | succ k1 =>
    have H := HA.out
    clear HA
    simp only [laws_eqWorkDeedS.l0] at H
    by_cases c4 : x5_1 < (l0.length : Int)
    ·rw [if_pos c4] at H
     have c4b0 : decide (x5_1 < (l0.length : Int)) = true := decide_eq_true c4
     clear c4
     by_cases c5 : 0 ≤ x5_1
     ·rw [if_pos c5] at H
      have c5b0 : decide (0 ≤ x5_1) = true := decide_eq_true c5
      clear c5
      by_cases c6 : x5_1 < (l1.length : Int)
      ·rw [if_pos c6] at H
       have c6b0 : decide (x5_1 < (l1.length : Int)) = true := decide_eq_true c6
       clear c6
       replace H := Option.bind_eq_some_iff.mp H
       obtain ⟨t422, A70, H⟩ := H
       replace H : (if t422 = true then (laws_eqWorkDeedS.l0 k1 l0 l1 (wrap64 (x5_1 + 1))) else (some false)) = some r := H
       have A7 := Aside0.mk A70
       clear A70
       by_cases c8 : t422 = true
       ·subst c8
        have H1 : (laws_eqWorkDeedS.l0 k1 l0 l1 (wrap64 (x5_1 + 1))) = some r := by rw [if_pos rfl] at H; exact H
        clear H
        have H := H1
        clear H1
        have H' := Aside0.mk H
        clear H
        try go_wp2
        have n0_ := Aside0.mk (below_drew1 HB.out)
        clear HB
        have HB := n0_
        clear n0_
        have p420 : 0 ≤ (x5_1 : Int) := of_decide_eq_true (by first | (with_reducible assumption) | assumption)
        have q420 : x5_1 < (l0.length : Int) := of_decide_eq_true (by first | (with_reducible assumption) | assumption)
        obtain ⟨ad420, e420, hx420_0, hx420_1, hx420_2⟩ := at_T129 HR0.out x5_1 p420 q420
        have hw420_2 := hx420_2
        have hw420_1 := hx420_1
        have hw420_0 := hx420_0
        cases e420
        replace hx420_0 := (HB.out.cell (World.block_lt_of_cell? w _ hx420_0)).trans hx420_0
        replace hx420_1 := (HB.out.cell (World.block_lt_of_cell? w _ hx420_1)).trans hx420_1
        replace hx420_2 := (HB.out.cell (World.block_lt_of_cell? w _ hx420_2)).trans hx420_2
        replace p420 := eq_true p420
        replace q420 := eq_true q420
        have p421 : 0 ≤ (x5_1 : Int) := of_decide_eq_true (by first | (with_reducible assumption) | assumption)
        have q421 : x5_1 < (l1.length : Int) := of_decide_eq_true (by first | (with_reducible assumption) | assumption)
        obtain ⟨ad421, e421, hx421_0, hx421_1, hx421_2⟩ := at_T129 HR1.out x5_1 p421 q421
        have hw421_2 := hx421_2
        have hw421_1 := hx421_1
        have hw421_0 := hx421_0
        cases e421
        replace hx421_0 := (HB.out.cell (World.block_lt_of_cell? w _ hx421_0)).trans hx421_0
        replace hx421_1 := (HB.out.cell (World.block_lt_of_cell? w _ hx421_1)).trans hx421_1
        replace hx421_2 := (HB.out.cell (World.block_lt_of_cell? w _ hx421_2)).trans hx421_2
        replace p421 := eq_true p421
        replace q421 := eq_true q421
        refine start_ (n := 10) (S := fun w' => w'.cell? (ad420.add ((x5_1).toNat * 3)) = some (.int .i64 ((rd_T129 l0 x5_1).f0)) ∧ w'.cell? ⟨(ad420.add ((x5_1).toNat * 3)).block, (ad420.add ((x5_1).toNat * 3)).off + 1, none⟩ = some (.int .i64 ((rd_T129 l0 x5_1).f1)) ∧ w'.cell? ⟨(ad420.add ((x5_1).toNat * 3)).block, (ad420.add ((x5_1).toNat * 3)).off + 2, none⟩ = some (.int .i64 ((rd_T129 l0 x5_1).f2)) ∧ w'.cell? (ad421.add ((x5_1).toNat * 3)) = some (.int .i64 ((rd_T129 l1 x5_1).f0)) ∧ w'.cell? ⟨(ad421.add ((x5_1).toNat * 3)).block, (ad421.add ((x5_1).toNat * 3)).off + 1, none⟩ = some (.int .i64 ((rd_T129 l1 x5_1).f1)) ∧ w'.cell? ⟨(ad421.add ((x5_1).toNat * 3)).block, (ad421.add ((x5_1).toNat * 3)).off + 2, none⟩ = some (.int .i64 ((rd_T129 l1 x5_1).f2))) (ds := []) (bz 10 0) (by kernel_rfl) rfl rfl ⟨((HB.out.cell (World.block_lt_of_cell? w _ hw420_0)).trans hw420_0), ((HB.out.cell (World.block_lt_of_cell? w _ hw420_1)).trans hw420_1), ((HB.out.cell (World.block_lt_of_cell? w _ hw420_2)).trans hw420_2), ((HB.out.cell (World.block_lt_of_cell? w _ hw421_0)).trans hw421_0), ((HB.out.cell (World.block_lt_of_cell? w _ hw421_1)).trans hw421_1), ((HB.out.cell (World.block_lt_of_cell? w _ hw421_2)).trans hw421_2)⟩ (fun hHeld => ?_); refine with_tabW laws_eqWorkDeedS.tab6 laws_eqWorkDeedS.bits6 (fun HT_ HW_ => ?_)
        generalize wr.drew = w9 at HB hx420_0 hx420_1 hx420_2 hx421_0 hx421_1 hx421_2 hHeld ⊢
        refine pure_ (i := 0) (N := some 17) (v := ?_) (a' := ?_) (bz 10 1) rfl rfl (any_of HT_.out (by kernel_rfl)) (fun _ _ _ h => h) (Or.inl ⟨by rfl, ?_⟩) ?_ ?_
        rotate_left
        ·intro w'
         go_simp
         with_reducible rfl
        rotate_left
        ·simp only [Act.put, List.setIfInBounds_toArray, List.set_cons_zero, List.set_cons_succ, i64_w, i32_w]
         rfl
        refine pure_ (i := 1) (N := some 18) (v := ?_) (a' := ?_) (bz 10 3) rfl rfl (any_of HT_.out (by kernel_rfl)) (fun _ _ _ h => h) (Or.inl ⟨by rfl, ?_⟩) ?_ ?_
        rotate_left
        ·intro w'
         go_simp
         with_reducible rfl
        rotate_left
        ·simp only [Act.put, List.setIfInBounds_toArray, List.set_cons_zero, List.set_cons_succ, i64_w, i32_w]
         rfl
        refine pure_ (i := 2) (N := some 19) (v := ?_) (a' := ?_) (bz 10 7) rfl rfl (any_of HT_.out (by kernel_rfl)) (fun _ _ _ h => h) (Or.inl ⟨by rfl, ?_⟩) ?_ ?_
        rotate_left
        ·intro w'
         go_simp
         with_reducible rfl
        rotate_left
        ·simp only [Act.put, List.setIfInBounds_toArray, List.set_cons_zero, List.set_cons_succ, i64_w, i32_w]
         rfl
        refine pure_ (i := 4) (N := some 21) (v := ?_) (a' := ?_) (bz 10 23) rfl rfl (any_of HT_.out (by kernel_rfl)) (fun _ _ _ h => h) (Or.inl ⟨by rfl, ?_⟩) ?_ ?_
        rotate_left
        ·intro w'
         go_simp
         with_reducible rfl
        rotate_left
        ·simp only [Act.put, List.setIfInBounds_toArray, List.set_cons_zero, List.set_cons_succ, i64_w, i32_w]
         rfl
        refine pure_ (i := 5) (N := some 22) (v := ?_) (a' := ?_) (bz 10 55) rfl rfl (any_of HT_.out (by kernel_rfl)) (fun _ _ _ h => h) (Or.inl ⟨by rfl, ?_⟩) ?_ ?_
        rotate_left
        ·intro w'
         go_simp
         with_reducible rfl
        rotate_left
        ·simp only [Act.put, List.setIfInBounds_toArray, List.set_cons_zero, List.set_cons_succ, i64_w, i32_w]
         rfl
        refine pure_ (i := 6) (N := some 23) (v := ?_) (a' := ?_) (bz 10 119) rfl rfl (any_of HT_.out (by kernel_rfl)) (fun _ _ _ h => h) (Or.inl ⟨by rfl, ?_⟩) ?_ ?_
        rotate_left
        ·intro w'
         go_simp
         with_reducible rfl
        rotate_left
        ·simp only [Act.put, List.setIfInBounds_toArray, List.set_cons_zero, List.set_cons_succ, i64_w, i32_w]
         rfl
        refine take_ (i := 3) (N := some 20) (v := ?_) (a' := ?_) (bz 10 127) rfl rfl (take_ofW HT_.out HW_.out (by kernel_rfl)) (fun _ _ _ h => h) (Or.inl ⟨by rfl, ?_⟩) hHeld ?_ ?_
        rotate_left
        ·rintro w' ⟨s0, s1, s2, s3, s4, s5⟩
         go_simp
         with_reducible rfl
        rotate_left
        ·simp only [Act.put, List.setIfInBounds_toArray, List.set_cons_zero, List.set_cons_succ, i64_w, i32_w]
         rfl
        refine take_ (i := 7) (N := some 24) (v := ?_) (a' := ?_) (bz 10 255) rfl rfl (take_ofW HT_.out HW_.out (by kernel_rfl)) (fun _ _ _ h => h) (Or.inl ⟨by rfl, ?_⟩) hHeld ?_ ?_
        rotate_left
        ·rintro w' ⟨s0, s1, s2, s3, s4, s5⟩
         go_simp
         with_reducible rfl
        rotate_left
        ·simp only [Act.put, List.setIfInBounds_toArray, List.set_cons_zero, List.set_cons_succ, i64_w, i32_w]
         rfl
        refine one_ (i := 8) (N := some 25) (bz 10 511) rfl rfl (one_of HT_.out (by kernel_rfl)) (by decide) (fun K hK => ?_)
        refine goes_ Try.func93 (by kernel_rfl) rfl #[.agg #[.int .i64 ((rd_T129 l0 x5_1).f0), .int .i64 ((rd_T129 l0 x5_1).f1), .int .i64 ((rd_T129 l0 x5_1).f2)], .agg #[.int .i64 ((rd_T129 l1 x5_1).f0), .int .i64 ((rd_T129 l1 x5_1).f1), .int .i64 ((rd_T129 l1 x5_1).f2)]] (by rfl) rfl rfl (by (try simp only [List.map_toArray, List.map_cons, List.map_nil]); first | done | rfl | (simp only [List.length_drop, List.length_take]; rfl)) ?_
        with_reducible refine (laws_eqWorkDeed.calls ((rd_T129 l0 x5_1).f0) ((rd_T129 l0 x5_1).f1) ((rd_T129 l0 x5_1).f2) ((rd_T129 l1 x5_1).f0) ((rd_T129 l1 x5_1).f1) ((rd_T129 l1 x5_1).f2) true _ A7.out).mono ?_
        rintro e w10 ⟨rfl, hb⟩
        refine ⟨_, rfl, ?_⟩
        have n0_ := Aside0.mk (below_step bw hb)
        clear HB
        have HB := n0_
        clear n0_
        (try clear hb)
        (try clear hb2)
        (try clear hk)
        (try clear hi)
        refine hK.out _ _ ⟨((HB.out.cell (World.block_lt_of_cell? w _ hw420_0)).trans hw420_0), ((HB.out.cell (World.block_lt_of_cell? w _ hw420_1)).trans hw420_1), ((HB.out.cell (World.block_lt_of_cell? w _ hw420_2)).trans hw420_2), ((HB.out.cell (World.block_lt_of_cell? w _ hw421_0)).trans hw421_0), ((HB.out.cell (World.block_lt_of_cell? w _ hw421_1)).trans hw421_1), ((HB.out.cell (World.block_lt_of_cell? w _ hw421_2)).trans hw421_2)⟩ (fun hHeld => ?_)
        clear hK K
        refine norm_ (a' := ?_) ?_ ?_
        rotate_left
        ·show Act.put _ (some 25) _ = _
         simp only [Act.put, List.setIfInBounds_toArray, List.set_cons_zero, List.set_cons_succ, i64_w, i32_w]
         rfl
        refine pure_ (i := 9) (N := some 26) (v := ?_) (a' := ?_) (bz 10 1023) rfl rfl (any_of HT_.out (by kernel_rfl)) (fun _ _ _ h => h) (Or.inl ⟨by rfl, ?_⟩) ?_ ?_
        rotate_left
        ·intro w'
         go_simp
         with_reducible rfl
        rotate_left
        ·simp only [Act.put, List.setIfInBounds_toArray, List.set_cons_zero, List.set_cons_succ, i64_w, i32_w]
         rfl
        refine done_ (done_of HT_.out (by kernel_rfl)) ?_
        try go_wp2
        go_roundg k1
        case measure => have := HK1.out; omega
        case rel => exact ⟨(wrap64 (x5_1 + 1)), (by first | rfl | (simp; done) | (simp [*]; done)), H', ⟨by have := HK1.out; omega⟩, ⟨bw⟩⟩
       ·replace c8 := Bool.eq_false_iff.mpr c8
        subst c8
        have H1 : (some false) = some r := by rw [if_neg (show ¬ (false = true) by decide)] at H; exact H
        clear H
        have H := H1
        clear H1
        obtain rfl := Option.some.inj H
        try go_wp2
        have n0_ := Aside0.mk (below_drew1 HB.out)
        clear HB
        have HB := n0_
        clear n0_
        have p420 : 0 ≤ (x5_1 : Int) := of_decide_eq_true (by first | (with_reducible assumption) | assumption)
        have q420 : x5_1 < (l0.length : Int) := of_decide_eq_true (by first | (with_reducible assumption) | assumption)
        obtain ⟨ad420, e420, hx420_0, hx420_1, hx420_2⟩ := at_T129 HR0.out x5_1 p420 q420
        have hw420_2 := hx420_2
        have hw420_1 := hx420_1
        have hw420_0 := hx420_0
        cases e420
        replace hx420_0 := (HB.out.cell (World.block_lt_of_cell? w _ hx420_0)).trans hx420_0
        replace hx420_1 := (HB.out.cell (World.block_lt_of_cell? w _ hx420_1)).trans hx420_1
        replace hx420_2 := (HB.out.cell (World.block_lt_of_cell? w _ hx420_2)).trans hx420_2
        replace p420 := eq_true p420
        replace q420 := eq_true q420
        have p421 : 0 ≤ (x5_1 : Int) := of_decide_eq_true (by first | (with_reducible assumption) | assumption)
        have q421 : x5_1 < (l1.length : Int) := of_decide_eq_true (by first | (with_reducible assumption) | assumption)
        obtain ⟨ad421, e421, hx421_0, hx421_1, hx421_2⟩ := at_T129 HR1.out x5_1 p421 q421
        have hw421_2 := hx421_2
        have hw421_1 := hx421_1
        have hw421_0 := hx421_0
        cases e421
        replace hx421_0 := (HB.out.cell (World.block_lt_of_cell? w _ hx421_0)).trans hx421_0
        replace hx421_1 := (HB.out.cell (World.block_lt_of_cell? w _ hx421_1)).trans hx421_1
        replace hx421_2 := (HB.out.cell (World.block_lt_of_cell? w _ hx421_2)).trans hx421_2
        replace p421 := eq_true p421
        replace q421 := eq_true q421
        refine start_ (n := 10) (S := fun w' => w'.cell? (ad420.add ((x5_1).toNat * 3)) = some (.int .i64 ((rd_T129 l0 x5_1).f0)) ∧ w'.cell? ⟨(ad420.add ((x5_1).toNat * 3)).block, (ad420.add ((x5_1).toNat * 3)).off + 1, none⟩ = some (.int .i64 ((rd_T129 l0 x5_1).f1)) ∧ w'.cell? ⟨(ad420.add ((x5_1).toNat * 3)).block, (ad420.add ((x5_1).toNat * 3)).off + 2, none⟩ = some (.int .i64 ((rd_T129 l0 x5_1).f2)) ∧ w'.cell? (ad421.add ((x5_1).toNat * 3)) = some (.int .i64 ((rd_T129 l1 x5_1).f0)) ∧ w'.cell? ⟨(ad421.add ((x5_1).toNat * 3)).block, (ad421.add ((x5_1).toNat * 3)).off + 1, none⟩ = some (.int .i64 ((rd_T129 l1 x5_1).f1)) ∧ w'.cell? ⟨(ad421.add ((x5_1).toNat * 3)).block, (ad421.add ((x5_1).toNat * 3)).off + 2, none⟩ = some (.int .i64 ((rd_T129 l1 x5_1).f2))) (ds := []) (bz 10 0) (by kernel_rfl) rfl rfl ⟨((HB.out.cell (World.block_lt_of_cell? w _ hw420_0)).trans hw420_0), ((HB.out.cell (World.block_lt_of_cell? w _ hw420_1)).trans hw420_1), ((HB.out.cell (World.block_lt_of_cell? w _ hw420_2)).trans hw420_2), ((HB.out.cell (World.block_lt_of_cell? w _ hw421_0)).trans hw421_0), ((HB.out.cell (World.block_lt_of_cell? w _ hw421_1)).trans hw421_1), ((HB.out.cell (World.block_lt_of_cell? w _ hw421_2)).trans hw421_2)⟩ (fun hHeld => ?_); refine with_tabW laws_eqWorkDeedS.tab6 laws_eqWorkDeedS.bits6 (fun HT_ HW_ => ?_)
        generalize wr.drew = w11 at HB hx420_0 hx420_1 hx420_2 hx421_0 hx421_1 hx421_2 hHeld ⊢
        refine pure_ (i := 0) (N := some 17) (v := ?_) (a' := ?_) (bz 10 1) rfl rfl (any_of HT_.out (by kernel_rfl)) (fun _ _ _ h => h) (Or.inl ⟨by rfl, ?_⟩) ?_ ?_
        rotate_left
        ·intro w'
         go_simp
         with_reducible rfl
        rotate_left
        ·simp only [Act.put, List.setIfInBounds_toArray, List.set_cons_zero, List.set_cons_succ, i64_w, i32_w]
         rfl
        refine pure_ (i := 1) (N := some 18) (v := ?_) (a' := ?_) (bz 10 3) rfl rfl (any_of HT_.out (by kernel_rfl)) (fun _ _ _ h => h) (Or.inl ⟨by rfl, ?_⟩) ?_ ?_
        rotate_left
        ·intro w'
         go_simp
         with_reducible rfl
        rotate_left
        ·simp only [Act.put, List.setIfInBounds_toArray, List.set_cons_zero, List.set_cons_succ, i64_w, i32_w]
         rfl
        refine pure_ (i := 2) (N := some 19) (v := ?_) (a' := ?_) (bz 10 7) rfl rfl (any_of HT_.out (by kernel_rfl)) (fun _ _ _ h => h) (Or.inl ⟨by rfl, ?_⟩) ?_ ?_
        rotate_left
        ·intro w'
         go_simp
         with_reducible rfl
        rotate_left
        ·simp only [Act.put, List.setIfInBounds_toArray, List.set_cons_zero, List.set_cons_succ, i64_w, i32_w]
         rfl
        refine pure_ (i := 4) (N := some 21) (v := ?_) (a' := ?_) (bz 10 23) rfl rfl (any_of HT_.out (by kernel_rfl)) (fun _ _ _ h => h) (Or.inl ⟨by rfl, ?_⟩) ?_ ?_
        rotate_left
        ·intro w'
         go_simp
         with_reducible rfl
        rotate_left
        ·simp only [Act.put, List.setIfInBounds_toArray, List.set_cons_zero, List.set_cons_succ, i64_w, i32_w]
         rfl
        refine pure_ (i := 5) (N := some 22) (v := ?_) (a' := ?_) (bz 10 55) rfl rfl (any_of HT_.out (by kernel_rfl)) (fun _ _ _ h => h) (Or.inl ⟨by rfl, ?_⟩) ?_ ?_
        rotate_left
        ·intro w'
         go_simp
         with_reducible rfl
        rotate_left
        ·simp only [Act.put, List.setIfInBounds_toArray, List.set_cons_zero, List.set_cons_succ, i64_w, i32_w]
         rfl
        refine pure_ (i := 6) (N := some 23) (v := ?_) (a' := ?_) (bz 10 119) rfl rfl (any_of HT_.out (by kernel_rfl)) (fun _ _ _ h => h) (Or.inl ⟨by rfl, ?_⟩) ?_ ?_
        rotate_left
        ·intro w'
         go_simp
         with_reducible rfl
        rotate_left
        ·simp only [Act.put, List.setIfInBounds_toArray, List.set_cons_zero, List.set_cons_succ, i64_w, i32_w]
         rfl
        refine take_ (i := 3) (N := some 20) (v := ?_) (a' := ?_) (bz 10 127) rfl rfl (take_ofW HT_.out HW_.out (by kernel_rfl)) (fun _ _ _ h => h) (Or.inl ⟨by rfl, ?_⟩) hHeld ?_ ?_
        rotate_left
        ·rintro w' ⟨s0, s1, s2, s3, s4, s5⟩
         go_simp
         with_reducible rfl
        rotate_left
        ·simp only [Act.put, List.setIfInBounds_toArray, List.set_cons_zero, List.set_cons_succ, i64_w, i32_w]
         rfl
        refine take_ (i := 7) (N := some 24) (v := ?_) (a' := ?_) (bz 10 255) rfl rfl (take_ofW HT_.out HW_.out (by kernel_rfl)) (fun _ _ _ h => h) (Or.inl ⟨by rfl, ?_⟩) hHeld ?_ ?_
        rotate_left
        ·rintro w' ⟨s0, s1, s2, s3, s4, s5⟩
         go_simp
         with_reducible rfl
        rotate_left
        ·simp only [Act.put, List.setIfInBounds_toArray, List.set_cons_zero, List.set_cons_succ, i64_w, i32_w]
         rfl
        refine one_ (i := 8) (N := some 25) (bz 10 511) rfl rfl (one_of HT_.out (by kernel_rfl)) (by decide) (fun K hK => ?_)
        refine goes_ Try.func93 (by kernel_rfl) rfl #[.agg #[.int .i64 ((rd_T129 l0 x5_1).f0), .int .i64 ((rd_T129 l0 x5_1).f1), .int .i64 ((rd_T129 l0 x5_1).f2)], .agg #[.int .i64 ((rd_T129 l1 x5_1).f0), .int .i64 ((rd_T129 l1 x5_1).f1), .int .i64 ((rd_T129 l1 x5_1).f2)]] (by rfl) rfl rfl (by (try simp only [List.map_toArray, List.map_cons, List.map_nil]); first | done | rfl | (simp only [List.length_drop, List.length_take]; rfl)) ?_
        with_reducible refine (laws_eqWorkDeed.calls ((rd_T129 l0 x5_1).f0) ((rd_T129 l0 x5_1).f1) ((rd_T129 l0 x5_1).f2) ((rd_T129 l1 x5_1).f0) ((rd_T129 l1 x5_1).f1) ((rd_T129 l1 x5_1).f2) false _ A7.out).mono ?_
        rintro e w12 ⟨rfl, hb⟩
        refine ⟨_, rfl, ?_⟩
        have n0_ := Aside0.mk (below_step bw hb)
        clear HB
        have HB := n0_
        clear n0_
        (try clear hb)
        (try clear hb2)
        (try clear hk)
        (try clear hi)
        refine hK.out _ _ ⟨((HB.out.cell (World.block_lt_of_cell? w _ hw420_0)).trans hw420_0), ((HB.out.cell (World.block_lt_of_cell? w _ hw420_1)).trans hw420_1), ((HB.out.cell (World.block_lt_of_cell? w _ hw420_2)).trans hw420_2), ((HB.out.cell (World.block_lt_of_cell? w _ hw421_0)).trans hw421_0), ((HB.out.cell (World.block_lt_of_cell? w _ hw421_1)).trans hw421_1), ((HB.out.cell (World.block_lt_of_cell? w _ hw421_2)).trans hw421_2)⟩ (fun hHeld => ?_)
        clear hK K
        refine norm_ (a' := ?_) ?_ ?_
        rotate_left
        ·show Act.put _ (some 25) _ = _
         simp only [Act.put, List.setIfInBounds_toArray, List.set_cons_zero, List.set_cons_succ, i64_w, i32_w]
         rfl
        refine pure_ (i := 9) (N := some 26) (v := ?_) (a' := ?_) (bz 10 1023) rfl rfl (any_of HT_.out (by kernel_rfl)) (fun _ _ _ h => h) (Or.inl ⟨by rfl, ?_⟩) ?_ ?_
        rotate_left
        ·intro w'
         go_simp
         with_reducible rfl
        rotate_left
        ·simp only [Act.put, List.setIfInBounds_toArray, List.set_cons_zero, List.set_cons_succ, i64_w, i32_w]
         rfl
        refine done_ (done_of HT_.out (by kernel_rfl)) ?_
        try go_wp2
        go_ret
        exact ⟨by first | rfl | (simp [errW_none, errW_some] <;> rfl) | (simp [*, errW_none, errW_some] <;> rfl), bw⟩
      ·rw [if_neg c6] at H
       exact absurd H (by simp)
     ·rw [if_neg c5] at H
      exact absurd H (by simp)
    ·rw [if_neg c4] at H
     have c4b0 : decide (x5_1 < (l0.length : Int)) = false := decide_eq_false c4
     clear c4
     obtain rfl := Option.some.inj H
     go_wp2
     go_ret
     exact ⟨by first | rfl | (simp [errW_none, errW_some] <;> rfl) | (simp [*, errW_none, errW_some] <;> rfl), bw⟩
 ·rw [if_neg c3] at H
  have c3b0 : ((l0.length : Int) == (l1.length : Int)) = false := beq_eq_false_iff_ne.mpr c3
  have c3b1 : ((l0.length : Int) != (l1.length : Int)) = true := bne_iff_ne.mpr c3
  have c3b2 : (l0.length == l1.length) = false := by first | simpa using c3 | (simp at c3 ⊢; omega)
  obtain rfl := Option.some.inj H
  go_enter Try.func51, Try.ntmps51
  go_wp2
  go_ret
  exact ⟨by first | rfl | (simp [errW_none, errW_some] <;> rfl) | (simp [*, errW_none, errW_some] <;> rfl), bw⟩

/-! ### laws_markWorkDeedS: function 52 -/
def laws_markWorkDeedS.l0 : Nat → List (S129) → Int → Int → Option (Int × (List (S129)))
 | 0, _, _, _ => none
 | k + 1, x0, x1, x5 => if x5 < (x0.length : Int) then (if 0 ≤ x5 then ((some (x0.set (x5 : Int).toNat (⟨x1, (rd_T129 x0 x5).f1, (rd_T129 x0 x5).f2⟩ : S129) : List (S129))).bind fun y423 => ((some (y423.set (x5 : Int).toNat (⟨(rd_T129 y423 x5).f0, wrap64 (x1 + 1), (rd_T129 y423 x5).f2⟩ : S129) : List (S129))).bind fun y424 => (laws_markWorkDeedS.l0 k (y424.set (x5 : Int).toNat (⟨(rd_T129 y424 x5).f0, (rd_T129 y424 x5).f1, wrap64 ((wrap64 (x1 + 1)) + 1)⟩ : S129)) (wrap64 ((wrap64 ((wrap64 (x1 + 1)) + 1)) + 1)) (wrap64 (x5 + 1))))) else (none)) else (some (x1, x0))
def laws_markWorkDeedS.f (k : Nat) (l0 : List (S129)) (a1 : Int) : Option (Int × (List (S129))) := laws_markWorkDeedS.l0 k l0 a1 0
theorem laws_markWorkDeedS.mono_l : ∀ k, (∀ y0 y1 y2, LeO (laws_markWorkDeedS.l0 k y0 y1 y2) (laws_markWorkDeedS.l0 (k + 1) y0 y1 y2))
 | 0 => fun _ _ _ r h => by simp [laws_markWorkDeedS.l0] at h
 | k + 1 => by
  have ih0 := laws_markWorkDeedS.mono_l k
  ·intro y0 y1 y2
   unfold laws_markWorkDeedS.l0
   repeat' first
   | (with_reducible exact ih0 _ _ _)
   | (with_reducible exact LeO.refl _)
   | (with_reducible exact LeO.none _)
   | (with_reducible refine LeO.ite ?_ ?_)
   | (with_reducible refine LeO.bind ?_ (fun _ => ?_))
   | exact ih0 _ _ _
   | exact LeO.none _
   | refine LeO.ite ?_ ?_
   | refine LeO.bind ?_ (fun _ => ?_)
theorem laws_markWorkDeedS.mono : ∀ a0 a1 k, LeO (laws_markWorkDeedS.f k a0 a1) (laws_markWorkDeedS.f (k + 1) a0 a1) := by
 intro a0 a1 k
 have ih0 := laws_markWorkDeedS.mono_l k
 unfold laws_markWorkDeedS.f
 repeat' first
   | (with_reducible exact ih0 _ _ _)
   | (with_reducible exact LeO.refl _)
   | (with_reducible exact LeO.none _)
   | (with_reducible refine LeO.ite ?_ ?_)
   | (with_reducible refine LeO.bind ?_ (fun _ => ?_))
   | exact ih0 _ _ _
   | exact LeO.none _
   | refine LeO.ite ?_ ?_
   | refine LeO.bind ?_ (fun _ => ?_)
set_option maxHeartbeats 8000000 in
set_option maxRecDepth 100000 in
theorem laws_markWorkDeedS.calls (k : Nat) (P0_ : Nat → Prop) (u9000_ : Value) (l0 : List (S129)) (a1 : Int) (r1 : Int) (r2 : List (S129)) (w0 w : World) (hB : Below w0.heap.size w0 w) (ho0 : Kd.R k129 129 w w0.heap.size P0_ u9000_ l0) (h : laws_markWorkDeedS.f k l0 a1 = some (r1, r2)) :
  Calls Try.prog 52 #[u9000_, .int .i64 a1] w fun e w' => e = .returned (.int .i64 r1) ∧ Kd.R k129 129 w' w0.heap.size (fun k_ => (P0_ k_ ∨ w.heap.size ≤ k_)) u9000_ r2 ∧ Below w0.heap.size w0 w' ∧ Kept w w' (fun k_ => P0_ k_) := by
 have HO0 := Aside0.mk (show Kd.R k129 129 w w0.heap.size (fun k_ => (P0_ k_ ∨ w.heap.size ≤ k_)) u9000_ l0 from Kd.R_mono ho0 (fun k_ hk => (.inl hk)))
 have HK := Aside0.mk (Kept.refl w (fun k_ => P0_ k_))
 have HW0 := Aside0.mk hB.size
 have HB := Aside0.mk hB
 clear hB
 have H : (laws_markWorkDeedS.l0 k l0 a1 0) = some (r1, r2) := h
 clear h
 have H' := Aside0.mk H
 clear H
 go_enter Try.func52, Try.ntmps52
 go_wp2
 go_loopg [1, 5] k (fun kq v1 v5 w' => ∃ (x0_1 : List (S129)) (x1_1 : Int) (x5_1 : Int), v1 = .int .i64 x1_1 ∧ v5 = .int .i64 x5_1 ∧ Aside0 (laws_markWorkDeedS.l0 kq x0_1 x1_1 x5_1 = some (r1, r2)) ∧ Aside0 (kq ≤ k) ∧ Aside0 (Kd.R k129 129 w' w0.heap.size (fun k_ => (P0_ k_ ∨ w.heap.size ≤ k_)) u9000_ x0_1) ∧ Aside0 (Kept w w' (fun k_ => P0_ k_)) ∧ Aside0 (Below w0.heap.size w0 w'))
 case atStart => exact ⟨(l0), (a1), (0), (by first | rfl | (simp; done) | (simp [*]; done)), (by first | rfl | (simp; done) | (simp [*]; done)), H', ⟨Nat.le_refl _⟩, ⟨rk HO0⟩, ⟨by repeat (first | (with_reducible first | exact HK.out | apply Kept.alloc | apply Kept.drewN | apply Kept.drew) | exact HK.out)⟩, ⟨bw⟩⟩
 case round =>
  clear H'
  try clear p2
  obtain ⟨x0_1, x1_1, x5_1, rfl, rfl, HA, HK1, HO_0, HK, HB⟩ := hrel
  cases gk with
  | zero => exact absurd HA.out (by simp [laws_markWorkDeedS.l0])
  | succ k1 =>
   have H := HA.out
   clear HA
   simp only [laws_markWorkDeedS.l0] at H
   by_cases c3 : x5_1 < (x0_1.length : Int)
   ·rw [if_pos c3] at H
    have c3b0 : decide (x5_1 < (x0_1.length : Int)) = true := decide_eq_true c3
    clear c3
    by_cases c4 : 0 ≤ x5_1
    ·rw [if_pos c4] at H
     have c4b0 : decide (0 ≤ x5_1) = true := decide_eq_true c4
     clear c4
     obtain ⟨y423, hy423⟩ : ∃ y_ : List (S129), y_ = (x0_1.set (x5_1 : Int).toNat (⟨x1_1, (rd_T129 x0_1 x5_1).f1, (rd_T129 x0_1 x5_1).f2⟩ : S129)) := ⟨_, rfl⟩
     replace H : ((some (y423.set (x5_1 : Int).toNat (⟨(rd_T129 y423 x5_1).f0, wrap64 (x1_1 + 1), (rd_T129 y423 x5_1).f2⟩ : S129) : List (S129))).bind fun y424 => (laws_markWorkDeedS.l0 k1 (y424.set (x5_1 : Int).toNat (⟨(rd_T129 y424 x5_1).f0, (rd_T129 y424 x5_1).f1, wrap64 ((wrap64 (x1_1 + 1)) + 1)⟩ : S129)) (wrap64 ((wrap64 ((wrap64 (x1_1 + 1)) + 1)) + 1)) (wrap64 (x5_1 + 1)))) = some (r1, r2) := by first | (rw [hy423]; with_reducible exact H) | (have H2_ := (Option.bind_some _ _).symm.trans H; rw [hy423]; with_reducible exact H2_) | (have H2_ := (Option.bind_some _ _).symm.trans H; with_reducible exact H2_) | with_reducible exact H | (rw [hy423]; exact H) | exact H
     have Ny423 := Aside0.mk hy423
     clear hy423
     obtain ⟨y424, hy424⟩ : ∃ y_ : List (S129), y_ = (y423.set (x5_1 : Int).toNat (⟨(rd_T129 y423 x5_1).f0, wrap64 (x1_1 + 1), (rd_T129 y423 x5_1).f2⟩ : S129)) := ⟨_, rfl⟩
     replace H : (laws_markWorkDeedS.l0 k1 (y424.set (x5_1 : Int).toNat (⟨(rd_T129 y424 x5_1).f0, (rd_T129 y424 x5_1).f1, wrap64 ((wrap64 (x1_1 + 1)) + 1)⟩ : S129)) (wrap64 ((wrap64 ((wrap64 (x1_1 + 1)) + 1)) + 1)) (wrap64 (x5_1 + 1))) = some (r1, r2) := by first | (rw [hy424]; with_reducible exact H) | (have H2_ := (Option.bind_some _ _).symm.trans H; rw [hy424]; with_reducible exact H2_) | (have H2_ := (Option.bind_some _ _).symm.trans H; with_reducible exact H2_) | with_reducible exact H | (rw [hy424]; exact H) | exact H
     have Ny424 := Aside0.mk hy424
     clear hy424
     obtain ⟨y425, hy425⟩ : ∃ y_ : List (S129), y_ = (y424.set (x5_1 : Int).toNat (⟨(rd_T129 y424 x5_1).f0, (rd_T129 y424 x5_1).f1, wrap64 ((wrap64 (x1_1 + 1)) + 1)⟩ : S129)) := ⟨_, rfl⟩
     replace H : (laws_markWorkDeedS.l0 k1 y425 (wrap64 ((wrap64 ((wrap64 (x1_1 + 1)) + 1)) + 1)) (wrap64 (x5_1 + 1))) = some (r1, r2) := by first | (rw [hy425]; with_reducible exact H) | (have H2_ := (Option.bind_some _ _).symm.trans H; rw [hy425]; with_reducible exact H2_) | (have H2_ := (Option.bind_some _ _).symm.trans H; with_reducible exact H2_) | with_reducible exact H | (rw [hy425]; exact H) | exact H
     have Ny425 := Aside0.mk hy425
     clear hy425
     have H' := Aside0.mk H
     clear H
     obtain ⟨Ao8, co8, eo8⟩ := Kd.R_slice HO_0.out
     subst eo8
     have p5 : 0 ≤ (x5_1 : Int) := of_decide_eq_true (by first | (with_reducible assumption) | assumption)
     have q5 : (x5_1 : Int) < ((x0_1.length : Int) : Int) := of_decide_eq_true (by first | (with_reducible assumption) | assumption)
     obtain ⟨go5, co5, eo5, gb5, gl5, cl5, HG5⟩ := Kd.R_form HO_0.out (by omega)
     (first | cases eo5 | (injection eo5 with ea_ en_ ec_; (first | subst ea_ | (injection ea_ with ea_; subst ea_)); subst ec_; clear en_))
     have GB5 := Aside0.mk gb5
     have GG5 := Aside0.mk HG5
     clear gb5 gl5 HG5
     have HMgo5 := Aside0.mk (show (P0_ go5 ∨ w.heap.size ≤ go5) from (HO_0.out.1 _ rfl))
     obtain ⟨ce5, hcl5, hM5, hcc5, hfr5⟩ := Kd.R_elem HO_0.out z129 (x5_1 : Int) p5 q5
     obtain rfl := k129_openM hM5
     have hx5_0 : wr.cell? ⟨go5, (x5_1 : Int).toNat * 3, none⟩ = some (.int .i64 ((rd_T129 x0_1 x5_1).f0)) := hcc5 0 _ rfl
     have hx5_1 : wr.cell? ⟨go5, (x5_1 : Int).toNat * 3 + 1, none⟩ = some (.int .i64 ((rd_T129 x0_1 x5_1).f1)) := hcc5 1 _ rfl
     have hx5_2 : wr.cell? ⟨go5, (x5_1 : Int).toNat * 3 + 2, none⟩ = some (.int .i64 ((rd_T129 x0_1 x5_1).f2)) := hcc5 2 _ rfl
     have hf5_0 : wr.frozen? ⟨go5, (x5_1 : Int).toNat * 3, none⟩ = false := hfr5 0
     have hf5_1 : wr.frozen? ⟨go5, (x5_1 : Int).toNat * 3 + 1, none⟩ = false := hfr5 1
     have hf5_2 : wr.frozen? ⟨go5, (x5_1 : Int).toNat * 3 + 2, none⟩ = false := hfr5 2
     clear hcl5 hcc5 hfr5 hM5
     replace p5 := eq_true p5
     replace q5 := eq_true q5
     have HX9 := Aside0.mk (show Kd.R k129 129 wr w0.heap.size (fun k_ => (P0_ k_ ∨ w.heap.size ≤ k_)) (.slice (some ⟨go5, 0, none⟩) x0_1.length co8) x0_1 from (rk HO_0))
     obtain ⟨ce9, hcl9, hM9, hcc9, hfr9⟩ := Kd.R_elem HX9.out z129 (x5_1 : Int) (of_decide_eq_true (by first | (with_reducible assumption) | assumption)) (by have h_ : (x5_1 : Int) < ((x0_1.length : Int) : Int) := of_decide_eq_true (by first | (with_reducible assumption) | assumption); first | exact h_ | (have e_ := (Kd.R_reads' HO_0.out).1; omega) | simpa using h_)
     obtain rfl := k129_openM hM9
     have HP9 := Kd.R_seg HX9.out (x5_1 : Int) (of_decide_eq_true (by first | (with_reducible assumption) | assumption)) (by have h_ : (x5_1 : Int) < ((x0_1.length : Int) : Int) := of_decide_eq_true (by first | (with_reducible assumption) | assumption); first | exact h_ | (have e_ := (Kd.R_reads' HO_0.out).1; omega) | simpa using h_) (seg := [.int .i64 x1_1]) (j := 0) hcl9 hcc9 (show 1 ≤ 3 from by decide) (x' := (⟨x1_1, (rd_T129 x0_1 x5_1).f1, (rd_T129 x0_1 x5_1).f2⟩ : S129)) (k129_mkM _ _ _ (⟨x1_1, (rd_T129 x0_1 x5_1).f1, (rd_T129 x0_1 x5_1).f2⟩ : S129) ) (fun _ hk => hk)
     have hx9_0 := hcc9 0 _ rfl
     (try simp only [show (k129).sz = 3 from rfl, Nat.mul_one, Nat.add_zero] at hx9_0)
     have hf9_0 := hfr9 0
     (try simp only [show (k129).sz = 3 from rfl, Nat.mul_one, Nat.add_zero] at hf9_0)
     clear hcl9 hcc9 hfr9 hM9
     go_wp2_with (first | ((with_reducible refine gate_store (t := 3) (p := 16) rfl ?_); refine store_event (t := 3) (p := 16) (v := ?vo_w10) (w1 := (wr.setCell ⟨go5, (x5_1 : Int).toNat * 3, none⟩ (.int .i64 x1_1))) ?hg ?ho ?hn ?hr ?_; (case ho => rfl); (case hg => rfl); (case hn => rfl); (case hr => first | (go_simp; done) | (go_simp; rfl)); intro w10 hw; have hg : wr.grownBy w10 (some go5) := (by rw [hw]; exact HP9.2); have hp_ : Kd.R k129 129 w10 w0.heap.size (fun k_ => (P0_ k_ ∨ w.heap.size ≤ k_)) (.slice (some ⟨go5, 0, none⟩) x0_1.length co8) y423 := (by rw [hw, Ny423.out]; exact HP9.1); clear HP9; have n0_ := Aside0.mk (hp_); have n1_ := Aside0.mk ((by rw [hw]; exact below_set (HB.out) GB5.out : Below w0.heap.size w0 w10)); have n2_ := Aside0.mk (Kept.of_grown (S := (fun k_ => P0_ k_)) hg (by repeat (first | (with_reducible first | exact HK.out | apply Kept.alloc | apply Kept.drewN | apply Kept.drew) | exact HK.out)) (fun k_ e_ => (HO_0.out.1 k_ e_))); clear HO_0 HB HK; have HO_0 := n0_; have HB := n1_; have HK := n2_; clear n0_ n1_ n2_; clear hg hw hp_; have p6 : 0 ≤ (x5_1 : Int) := of_decide_eq_true (by first | (with_reducible assumption) | assumption); have q6 : (x5_1 : Int) < ((x0_1.length : Int) : Int) := of_decide_eq_true (by first | (with_reducible assumption) | assumption); obtain ⟨ce6, hcl6, hM6, hcc6, hfr6⟩ := Kd.R_elem HO_0.out z129 (x5_1 : Int) p6 q6; obtain rfl := k129_openM hM6; have hx6_0 : w10.cell? ⟨go5, (x5_1 : Int).toNat * 3, none⟩ = some (.int .i64 ((rd_T129 y423 x5_1).f0)) := hcc6 0 _ rfl; have hx6_1 : w10.cell? ⟨go5, (x5_1 : Int).toNat * 3 + 1, none⟩ = some (.int .i64 ((rd_T129 y423 x5_1).f1)) := hcc6 1 _ rfl; have hx6_2 : w10.cell? ⟨go5, (x5_1 : Int).toNat * 3 + 2, none⟩ = some (.int .i64 ((rd_T129 y423 x5_1).f2)) := hcc6 2 _ rfl; have hf6_0 : w10.frozen? ⟨go5, (x5_1 : Int).toNat * 3, none⟩ = false := hfr6 0; have hf6_1 : w10.frozen? ⟨go5, (x5_1 : Int).toNat * 3 + 1, none⟩ = false := hfr6 1; have hf6_2 : w10.frozen? ⟨go5, (x5_1 : Int).toNat * 3 + 2, none⟩ = false := hfr6 2; clear hcl6 hcc6 hfr6 hM6; replace p6 := eq_true p6; replace q6 := eq_true q6; have HX11 := Aside0.mk (show Kd.R k129 129 w10 w0.heap.size (fun k_ => (P0_ k_ ∨ w.heap.size ≤ k_)) (.slice (some ⟨go5, 0, none⟩) x0_1.length co8) y423 from (rk HO_0)); obtain ⟨ce11, hcl11, hM11, hcc11, hfr11⟩ := Kd.R_elem HX11.out z129 (x5_1 : Int) (of_decide_eq_true (by first | (with_reducible assumption) | assumption)) (by have h_ : (x5_1 : Int) < ((x0_1.length : Int) : Int) := of_decide_eq_true (by first | (with_reducible assumption) | assumption); first | exact h_ | (have e_ := (Kd.R_reads' HO_0.out).1; omega) | simpa using h_); obtain rfl := k129_openM hM11; have HP11 := Kd.R_seg HX11.out (x5_1 : Int) (of_decide_eq_true (by first | (with_reducible assumption) | assumption)) (by have h_ : (x5_1 : Int) < ((x0_1.length : Int) : Int) := of_decide_eq_true (by first | (with_reducible assumption) | assumption); first | exact h_ | (have e_ := (Kd.R_reads' HO_0.out).1; omega) | simpa using h_) (seg := [.int .i64 (wrap64 (x1_1 + 1))]) (j := 1) hcl11 hcc11 (show 2 ≤ 3 from by decide) (x' := (⟨(rd_T129 y423 x5_1).f0, wrap64 (x1_1 + 1), (rd_T129 y423 x5_1).f2⟩ : S129)) (k129_mkM _ _ _ (⟨(rd_T129 y423 x5_1).f0, wrap64 (x1_1 + 1), (rd_T129 y423 x5_1).f2⟩ : S129) ) (fun _ hk => hk); have hx11_1 := hcc11 1 _ rfl; (try simp only [show (k129).sz = 3 from rfl, Nat.mul_one, Nat.add_zero] at hx11_1); have hf11_1 := hfr11 1; (try simp only [show (k129).sz = 3 from rfl, Nat.mul_one, Nat.add_zero] at hf11_1); clear hcl11 hcc11 hfr11 hM11) | ((with_reducible refine gate_store (t := 3) (p := 23) rfl ?_); refine store_event (t := 3) (p := 23) (v := ?vo_w12) (w1 := (w10.setCell ⟨go5, (x5_1 : Int).toNat * 3 + 1, none⟩ (.int .i64 (wrap64 (x1_1 + 1))))) ?hg ?ho ?hn ?hr ?_; (case ho => rfl); (case hg => rfl); (case hn => rfl); (case hr => first | (go_simp; done) | (go_simp; rfl)); intro w12 hw; have hg : w10.grownBy w12 (some go5) := (by rw [hw]; exact HP11.2); have hp_ : Kd.R k129 129 w12 w0.heap.size (fun k_ => (P0_ k_ ∨ w.heap.size ≤ k_)) (.slice (some ⟨go5, 0, none⟩) x0_1.length co8) y424 := (by rw [hw, Ny424.out]; exact HP11.1); clear HP11; have n0_ := Aside0.mk (hp_); have n1_ := Aside0.mk ((by rw [hw]; exact below_set (HB.out) GB5.out : Below w0.heap.size w0 w12)); have n2_ := Aside0.mk (Kept.of_grown (S := (fun k_ => P0_ k_)) hg (by repeat (first | (with_reducible first | exact HK.out | apply Kept.alloc | apply Kept.drewN | apply Kept.drew) | exact HK.out)) (fun k_ e_ => (HO_0.out.1 k_ e_))); clear HO_0 HB HK; have HO_0 := n0_; have HB := n1_; have HK := n2_; clear n0_ n1_ n2_; clear hg hw hp_; have p7 : 0 ≤ (x5_1 : Int) := of_decide_eq_true (by first | (with_reducible assumption) | assumption); have q7 : (x5_1 : Int) < ((x0_1.length : Int) : Int) := of_decide_eq_true (by first | (with_reducible assumption) | assumption); obtain ⟨ce7, hcl7, hM7, hcc7, hfr7⟩ := Kd.R_elem HO_0.out z129 (x5_1 : Int) p7 q7; obtain rfl := k129_openM hM7; have hx7_0 : w12.cell? ⟨go5, (x5_1 : Int).toNat * 3, none⟩ = some (.int .i64 ((rd_T129 y424 x5_1).f0)) := hcc7 0 _ rfl; have hx7_1 : w12.cell? ⟨go5, (x5_1 : Int).toNat * 3 + 1, none⟩ = some (.int .i64 ((rd_T129 y424 x5_1).f1)) := hcc7 1 _ rfl; have hx7_2 : w12.cell? ⟨go5, (x5_1 : Int).toNat * 3 + 2, none⟩ = some (.int .i64 ((rd_T129 y424 x5_1).f2)) := hcc7 2 _ rfl; have hf7_0 : w12.frozen? ⟨go5, (x5_1 : Int).toNat * 3, none⟩ = false := hfr7 0; have hf7_1 : w12.frozen? ⟨go5, (x5_1 : Int).toNat * 3 + 1, none⟩ = false := hfr7 1; have hf7_2 : w12.frozen? ⟨go5, (x5_1 : Int).toNat * 3 + 2, none⟩ = false := hfr7 2; clear hcl7 hcc7 hfr7 hM7; replace p7 := eq_true p7; replace q7 := eq_true q7; have HX13 := Aside0.mk (show Kd.R k129 129 w12 w0.heap.size (fun k_ => (P0_ k_ ∨ w.heap.size ≤ k_)) (.slice (some ⟨go5, 0, none⟩) x0_1.length co8) y424 from (rk HO_0)); obtain ⟨ce13, hcl13, hM13, hcc13, hfr13⟩ := Kd.R_elem HX13.out z129 (x5_1 : Int) (of_decide_eq_true (by first | (with_reducible assumption) | assumption)) (by have h_ : (x5_1 : Int) < ((x0_1.length : Int) : Int) := of_decide_eq_true (by first | (with_reducible assumption) | assumption); first | exact h_ | (have e_ := (Kd.R_reads' HO_0.out).1; omega) | simpa using h_); obtain rfl := k129_openM hM13; have HP13 := Kd.R_seg HX13.out (x5_1 : Int) (of_decide_eq_true (by first | (with_reducible assumption) | assumption)) (by have h_ : (x5_1 : Int) < ((x0_1.length : Int) : Int) := of_decide_eq_true (by first | (with_reducible assumption) | assumption); first | exact h_ | (have e_ := (Kd.R_reads' HO_0.out).1; omega) | simpa using h_) (seg := [.int .i64 (wrap64 ((wrap64 (x1_1 + 1)) + 1))]) (j := 2) hcl13 hcc13 (show 3 ≤ 3 from by decide) (x' := (⟨(rd_T129 y424 x5_1).f0, (rd_T129 y424 x5_1).f1, wrap64 ((wrap64 (x1_1 + 1)) + 1)⟩ : S129)) (k129_mkM _ _ _ (⟨(rd_T129 y424 x5_1).f0, (rd_T129 y424 x5_1).f1, wrap64 ((wrap64 (x1_1 + 1)) + 1)⟩ : S129) ) (fun _ hk => hk); have hx13_2 := hcc13 2 _ rfl; (try simp only [show (k129).sz = 3 from rfl, Nat.mul_one, Nat.add_zero] at hx13_2); have hf13_2 := hfr13 2; (try simp only [show (k129).sz = 3 from rfl, Nat.mul_one, Nat.add_zero] at hf13_2); clear hcl13 hcc13 hfr13 hM13) | ((with_reducible refine gate_store (t := 3) (p := 30) rfl ?_); refine store_event (t := 3) (p := 30) (v := ?vo_w14) (w1 := (w12.setCell ⟨go5, (x5_1 : Int).toNat * 3 + 2, none⟩ (.int .i64 (wrap64 ((wrap64 (x1_1 + 1)) + 1))))) ?hg ?ho ?hn ?hr ?_; (case ho => rfl); (case hg => rfl); (case hn => rfl); (case hr => first | (go_simp; done) | (go_simp; rfl)); intro w14 hw; have hg : w12.grownBy w14 (some go5) := (by rw [hw]; exact HP13.2); have hp_ : Kd.R k129 129 w14 w0.heap.size (fun k_ => (P0_ k_ ∨ w.heap.size ≤ k_)) (.slice (some ⟨go5, 0, none⟩) x0_1.length co8) y425 := (by rw [hw, Ny425.out]; exact HP13.1); clear HP13; have n0_ := Aside0.mk (hp_); have n1_ := Aside0.mk ((by rw [hw]; exact below_set (HB.out) GB5.out : Below w0.heap.size w0 w14)); have n2_ := Aside0.mk (Kept.of_grown (S := (fun k_ => P0_ k_)) hg (by repeat (first | (with_reducible first | exact HK.out | apply Kept.alloc | apply Kept.drewN | apply Kept.drew) | exact HK.out)) (fun k_ e_ => (HO_0.out.1 k_ e_))); clear HO_0 HB HK; have HO_0 := n0_; have HB := n1_; have HK := n2_; clear n0_ n1_ n2_; clear hg hw hp_))
     go_roundg k1
     case measure => have := HK1.out; omega
     case rel => exact ⟨(y425), (wrap64 ((wrap64 ((wrap64 (x1_1 + 1)) + 1)) + 1)), (wrap64 (x5_1 + 1)), (by first | rfl | (simp; done) | (simp [*]; done)), (by first | rfl | (simp; done) | (simp [*]; done)), H', ⟨by have := HK1.out; omega⟩, ⟨rk HO_0⟩, ⟨by repeat (first | (with_reducible first | exact HK.out | apply Kept.alloc | apply Kept.drewN | apply Kept.drew) | exact HK.out)⟩, ⟨bw⟩⟩
    ·rw [if_neg c4] at H
     exact absurd H (by simp)
   ·rw [if_neg c3] at H
    have c3b0 : decide (x5_1 < (x0_1.length : Int)) = false := decide_eq_false c3
    clear c3
    simp only [Option.some.injEq, Prod.mk.injEq] at H
    obtain ⟨rfl, rfl⟩ := H
    obtain ⟨Ao15, co15, eo15⟩ := Kd.R_slice HO_0.out
    subst eo15
    go_wp2
    go_ret
    exact ⟨by first | rfl | (simp [errW_none, errW_some] <;> rfl) | (simp [*, errW_none, errW_some] <;> rfl), rk HO_0, bw, by repeat (first | (with_reducible first | exact HK.out | apply Kept.alloc | apply Kept.drewN | apply Kept.drew) | exact HK.out)⟩

end Go.Proofs.Ytgoiihfojhpcmaa.G
