-- Printed by wip/gen.py of this session's repo, over the kit's print.py. Not trusted: Lean checks it.
import Derived.Test.YtihmidnjiaomhaaDoorSq
import Derived.Test.YtihmidnjiaomhaaDoorGx0
import Derived.Test.YtihmidnjiaomhaaDoorGx13
namespace Go.Proofs.YtihmidnjiaomhaaDoor.G
open Go.RowKit Go.Proofs.YtihmidnjiaomhaaDoorW.PrintWords Go.Proofs.YtihmidnjiaomhaaDoorW.PrintLast Go.Proofs.YtihmidnjiaomhaaDoorW.PrintMore Go.Proofs.YtihmidnjiaomhaaDoor.Sq
attribute [local go_sem] max2_int min2_int max_two min_two max_three min_three max_four min_four   -- for this text's walks alone
set_option linter.unusedVariables false
set_option linter.unusedSimpArgs false

/-! ### spec_l20Net: function 51 -/
mutual
def spec_l20Net.j0 : Nat → Int → List Int → Int → Int → Option (Int × (List (S42)) × Int)
 | 0, _, _, _, _ => none
 | k + 1, x1, x1000, x1001, x256000 => (spec_l20Rd_pick.f k x1000 x1001 11).bind fun bt260 => (spec_l20Net.l0 k x1 bt260.1 x1000 bt260.2 x256000 ([] : List (S42)))
def spec_l20Net.l0 : Nat → Int → Int → List Int → Int → Int → List (S42) → Option (Int × (List (S42)) × Int)
 | 0, _, _, _, _, _, _ => none
 | k + 1, x1, x6, x1000, x1001, x256000, x256001 => if x6 > 0 then (spec_l20Net.j2 k x1 x6 (decide (x256000 > 1)) x1000 x1001 x256000 x256001) else (spec_l20Net.j2 k x1 x6 false x1000 x1001 x256000 x256001)
def spec_l20Net.j2 : Nat → Int → Int → Bool → List Int → Int → Int → List (S42) → Option (Int × (List (S42)) × Int)
 | 0, _, _, _, _, _, _, _ => none
 | k + 1, x1, x6, x28, x1000, x1001, x256000, x256001 => if x28 = true then ((spec_l20Rd_pick.f k x1000 x1001 x256000).bind fun bt262 => ((spec_l20Rd_pick.f k x1000 bt262.2 (wrap64 (x256000 - 1))).bind fun bt264 => (if x256000 = 0 then (none) else ((spec_l20Rd_pick.f k x1000 bt264.2 40).bind fun bt266 => (if x256001.length < 5864062014805 then (spec_l20Net.l0 k x1 (wrap64 (x6 - 1)) x1000 bt266.2 x256000 (x256001 ++ [(⟨bt262.1, Int.tmod (wrap64 ((wrap64 (bt262.1 + 1)) + bt264.1)) x256000, wrap64 (1 + bt266.1)⟩ : S42)])) else (none)))))) else ((spec_l20Rd_odd.f k x1000 x1001 x1).bind fun bt271 => (if bt271.1 = true then ((spec_l20Rd_pick.f k x1000 bt271.2 5).bind fun bt273 => (if bt273.1 = 0 then ((some (([0, (-1), 9] : List Int) : List Int)).bind fun y275 => ((spec_l20Rd_pick.f k x1000 bt273.2 3).bind fun bt278 => (if 0 ≤ bt278.1 then (if bt278.1 < (y275.length : Int) then (some (rd y275 bt278.1, x256001, bt278.2)) else (none)) else (none)))) else (if bt273.1 = 1 then (if x256001.length < 5864062014805 then (some (x256000, (x256001 ++ [(⟨0, x256000, 5⟩ : S42)]), bt273.2)) else (none)) else (if bt273.1 = 2 then (if x256001.length < 5864062014805 then (some (x256000, (x256001 ++ [(⟨0, 0, 5⟩ : S42)]), bt273.2)) else (none)) else (if bt273.1 = 3 then ((some (([0, 1000] : List Int) : List Int)).bind fun y287 => ((spec_l20Rd_pick.f k x1000 bt273.2 2).bind fun bt290 => (if 0 ≤ bt290.1 then (if bt290.1 < (y287.length : Int) then (if x256001.length < 5864062014805 then (some (x256000, (x256001 ++ [(⟨0, 1, rd y287 bt290.1⟩ : S42)]), bt290.2)) else (none)) else (none)) else (none)))) else (if 11 ≤ 11728124029610 then (some (x256000, (List.replicate 11 z42), bt273.2)) else (none))))))) else (some (x256000, x256001, bt271.2))))
end
def spec_l20Net.f (k : Nat) (s0_0 : List Int) (s0_1 : Int) (a1 : Int) : Option (Int × (List (S42)) × Int) := (spec_l20Rd_pick.f k s0_0 s0_1 8).bind fun bt253 => ((spec_l20Rd_pick.f k s0_0 bt253.2 3).bind fun bt256 => (if bt256.1 > 0 then ((spec_l20Rd_pick.f k s0_0 bt256.2 4).bind fun bt258 => (spec_l20Net.j0 k a1 s0_0 bt258.2 (wrap64 (4 + bt258.1)))) else (spec_l20Net.j0 k a1 s0_0 bt256.2 (wrap64 (1 + bt253.1)))))
theorem spec_l20Net.mono_l : ∀ k, (∀ y0 y1 y2 y3, LeO (spec_l20Net.j0 k y0 y1 y2 y3) (spec_l20Net.j0 (k + 1) y0 y1 y2 y3)) ∧ (∀ y0 y1 y2 y3 y4 y5, LeO (spec_l20Net.l0 k y0 y1 y2 y3 y4 y5) (spec_l20Net.l0 (k + 1) y0 y1 y2 y3 y4 y5)) ∧ (∀ y0 y1 y2 y3 y4 y5 y6, LeO (spec_l20Net.j2 k y0 y1 y2 y3 y4 y5 y6) (spec_l20Net.j2 (k + 1) y0 y1 y2 y3 y4 y5 y6))
 | 0 => ⟨fun _ _ _ _ r h => by simp [spec_l20Net.j0] at h, fun _ _ _ _ _ _ r h => by simp [spec_l20Net.l0] at h, fun _ _ _ _ _ _ _ r h => by simp [spec_l20Net.j2] at h⟩
 | k + 1 => by
  obtain ⟨ih0, ih1, ih2⟩ := spec_l20Net.mono_l k
  refine ⟨?_, ?_, ?_⟩
  ·intro y0 y1 y2 y3
   unfold spec_l20Net.j0
   repeat' first
   | (with_reducible exact ih0 _ _ _ _)
   | (with_reducible exact ih1 _ _ _ _ _ _)
   | (with_reducible exact ih2 _ _ _ _ _ _ _)
   | (with_reducible exact spec_l20Rd_odd.mono _ _ _ _)
   | (with_reducible exact spec_l20Rd_pick.mono _ _ _ _)
   | (with_reducible exact LeO.refl _)
   | (with_reducible exact LeO.none _)
   | (with_reducible refine LeO.ite ?_ ?_)
   | (with_reducible refine LeO.bind ?_ (fun _ => ?_))
   | exact ih0 _ _ _ _
   | exact ih1 _ _ _ _ _ _
   | exact ih2 _ _ _ _ _ _ _
   | exact spec_l20Rd_odd.mono _ _ _ _
   | exact spec_l20Rd_pick.mono _ _ _ _
   | exact LeO.none _
   | refine LeO.ite ?_ ?_
   | refine LeO.bind ?_ (fun _ => ?_)
  ·intro y0 y1 y2 y3 y4 y5
   unfold spec_l20Net.l0
   repeat' first
   | (with_reducible exact ih0 _ _ _ _)
   | (with_reducible exact ih1 _ _ _ _ _ _)
   | (with_reducible exact ih2 _ _ _ _ _ _ _)
   | (with_reducible exact spec_l20Rd_odd.mono _ _ _ _)
   | (with_reducible exact spec_l20Rd_pick.mono _ _ _ _)
   | (with_reducible exact LeO.refl _)
   | (with_reducible exact LeO.none _)
   | (with_reducible refine LeO.ite ?_ ?_)
   | (with_reducible refine LeO.bind ?_ (fun _ => ?_))
   | exact ih0 _ _ _ _
   | exact ih1 _ _ _ _ _ _
   | exact ih2 _ _ _ _ _ _ _
   | exact spec_l20Rd_odd.mono _ _ _ _
   | exact spec_l20Rd_pick.mono _ _ _ _
   | exact LeO.none _
   | refine LeO.ite ?_ ?_
   | refine LeO.bind ?_ (fun _ => ?_)
  ·intro y0 y1 y2 y3 y4 y5 y6
   unfold spec_l20Net.j2
   repeat' first
   | (with_reducible exact ih0 _ _ _ _)
   | (with_reducible exact ih1 _ _ _ _ _ _)
   | (with_reducible exact ih2 _ _ _ _ _ _ _)
   | (with_reducible exact spec_l20Rd_odd.mono _ _ _ _)
   | (with_reducible exact spec_l20Rd_pick.mono _ _ _ _)
   | (with_reducible exact LeO.refl _)
   | (with_reducible exact LeO.none _)
   | (with_reducible refine LeO.ite ?_ ?_)
   | (with_reducible refine LeO.bind ?_ (fun _ => ?_))
   | exact ih0 _ _ _ _
   | exact ih1 _ _ _ _ _ _
   | exact ih2 _ _ _ _ _ _ _
   | exact spec_l20Rd_odd.mono _ _ _ _
   | exact spec_l20Rd_pick.mono _ _ _ _
   | exact LeO.none _
   | refine LeO.ite ?_ ?_
   | refine LeO.bind ?_ (fun _ => ?_)
theorem spec_l20Net.mono : ∀ a0 a1 a2 k, LeO (spec_l20Net.f k a0 a1 a2) (spec_l20Net.f (k + 1) a0 a1 a2) := by
 intro a0 a1 a2 k
 obtain ⟨ih0, ih1, ih2⟩ := spec_l20Net.mono_l k
 unfold spec_l20Net.f
 repeat' first
   | (with_reducible exact ih0 _ _ _ _)
   | (with_reducible exact ih1 _ _ _ _ _ _)
   | (with_reducible exact ih2 _ _ _ _ _ _ _)
   | (with_reducible exact spec_l20Rd_odd.mono _ _ _ _)
   | (with_reducible exact spec_l20Rd_pick.mono _ _ _ _)
   | (with_reducible exact LeO.refl _)
   | (with_reducible exact LeO.none _)
   | (with_reducible refine LeO.ite ?_ ?_)
   | (with_reducible refine LeO.bind ?_ (fun _ => ?_))
   | exact ih0 _ _ _ _
   | exact ih1 _ _ _ _ _ _
   | exact ih2 _ _ _ _ _ _ _
   | exact spec_l20Rd_odd.mono _ _ _ _
   | exact spec_l20Rd_pick.mono _ _ _ _
   | exact LeO.none _
   | refine LeO.ite ?_ ?_
   | refine LeO.bind ?_ (fun _ => ?_)
def spec_l20Net.T8 : Bool × List (List Nat × List Nat) := (true, [([], []), ([0], [0]), ([], []), ([], []), ([3], [3]), ([4], [4]), ([2, 5], [2, 5]), ([1, 6], [1, 6]), ([], []), ([8], [8]), ([7, 9], [7, 9]), ([10, 6, 0, 1, 2, 3, 4, 5, 6, 7, 8, 9, 10], [10])])
def spec_l20Net.B8 : List Nat := [0, 1, 0, 0, 8, 24, 60, 127, 0, 256, 1023, 2047]
theorem spec_l20Net.tab8 : rtab .any (opsOf Tryd.f51 8) = spec_l20Net.T8 := by kernel_rfl
theorem spec_l20Net.bits8 : waitsOk spec_l20Net.T8.2 spec_l20Net.B8 = true := by kernel_rfl
def spec_l20Net.T9 : Bool × List (List Nat × List Nat) := (true, [([], []), ([0], [0]), ([], []), ([], []), ([], []), ([4], [4]), ([5], [5]), ([2, 3, 6], [2, 3, 6]), ([7], [7]), ([1, 8, 5], [1, 8]), ([0, 1, 2, 3, 4, 5, 6, 7, 8, 9], []), ([10, 9, 9, 0, 1, 2, 3, 4, 5, 6, 7, 8, 9], [9, 10])])
def spec_l20Net.B9 : List Nat := [0, 1, 0, 0, 0, 16, 48, 124, 252, 511, 1023, 2047]
theorem spec_l20Net.tab9 : rtab .any (opsOf Tryd.f51 9) = spec_l20Net.T9 := by kernel_rfl
theorem spec_l20Net.bits9 : waitsOk spec_l20Net.T9.2 spec_l20Net.B9 = true := by kernel_rfl
def spec_l20Net.T20 : Bool × List (List Nat × List Nat) := (true, [([], []), ([0], [0]), ([], []), ([], []), ([3], [3]), ([2, 4], [2, 4]), ([5], [5]), ([6], [6]), ([7], [7]), ([1, 8, 4], [1, 8]), ([0, 1, 2, 3, 4, 5, 6, 7, 8, 9], []), ([10, 9, 9, 0, 1, 2, 3, 4, 5, 6, 7, 8, 9], [9, 10])])
def spec_l20Net.B20 : List Nat := [0, 1, 0, 0, 8, 28, 60, 124, 252, 511, 1023, 2047]
theorem spec_l20Net.tab20 : rtab .any (opsOf Tryd.f51 20) = spec_l20Net.T20 := by kernel_rfl
theorem spec_l20Net.bits20 : waitsOk spec_l20Net.T20.2 spec_l20Net.B20 = true := by kernel_rfl
set_option maxHeartbeats 8000000 in
set_option maxRecDepth 100000 in
theorem spec_l20Net.calls (k : Nat) (g : Nat) (s0_0 : List Int) (s0_1 : Int) (a1 : Int) (r1 : Int) (r2 : List (S42)) (r3 : Int) (w0 w : World) (hI : IsS127 w0 w g s0_0 s0_1) (hB : Below w0.heap.size w0 w) (h : spec_l20Net.f k s0_0 s0_1 a1 = some (r1, r2, r3)) :
  Calls Tryd.prog 51 #[.pointer (some ⟨g, 0, none⟩), .int .i64 a1] w fun e w' => ∃ v1_ : Value, e = .returned (.agg #[.int .i64 r1, v1_]) ∧ Kd.R k42 42 w' w.heap.size (fun _ => True) v1_ r2 ∧ IsS127 w0 w' g s0_0 r3 ∧ Below w0.heap.size w0 w' ∧ KeepBut w w' g none := by
 have hu40 := Tryd.underlying40
 have hu42 := Tryd.underlying42
 have HI0 := Aside0.mk hI
 have HK := Aside0.mk (KeepBut.refl w g none)
 have HL := Aside0.mk hB.size
 clear hI
 have HW0 := Aside0.mk hB.size
 have HB := Aside0.mk hB
 clear hB
 have H : ((spec_l20Rd_pick.f k s0_0 s0_1 8).bind fun bt253 => ((spec_l20Rd_pick.f k s0_0 bt253.2 3).bind fun bt256 => (if bt256.1 > 0 then ((spec_l20Rd_pick.f k s0_0 bt256.2 4).bind fun bt258 => (spec_l20Net.j0 k a1 s0_0 bt258.2 (wrap64 (4 + bt258.1)))) else (spec_l20Net.j0 k a1 s0_0 bt256.2 (wrap64 (1 + bt253.1)))))) = some (r1, r2, r3) := h
 clear h
 replace H := Option.bind_eq_some_iff.mp H
 obtain ⟨⟨t253, t254⟩, A30, H⟩ := H
 replace H : ((spec_l20Rd_pick.f k s0_0 t254 3).bind fun bt256 => (if bt256.1 > 0 then ((spec_l20Rd_pick.f k s0_0 bt256.2 4).bind fun bt258 => (spec_l20Net.j0 k a1 s0_0 bt258.2 (wrap64 (4 + bt258.1)))) else (spec_l20Net.j0 k a1 s0_0 bt256.2 (wrap64 (1 + t253))))) = some (r1, r2, r3) := H
 have A3 := Aside0.mk A30
 clear A30
 replace H := Option.bind_eq_some_iff.mp H
 obtain ⟨⟨t256, t257⟩, A40, H⟩ := H
 replace H : (if t256 > 0 then ((spec_l20Rd_pick.f k s0_0 t257 4).bind fun bt258 => (spec_l20Net.j0 k a1 s0_0 bt258.2 (wrap64 (4 + bt258.1)))) else (spec_l20Net.j0 k a1 s0_0 t257 (wrap64 (1 + t253)))) = some (r1, r2, r3) := H
 have A4 := Aside0.mk A40
 clear A40
 have HC5 := Aside0.mk H
 clear H
 go_enter Tryd.func51, Tryd.ntmps51
 have TK0_ := Aside0.mk trivial; have TK1_ := Aside0.mk trivial; have TK2_ := Aside0.mk trivial; have TK3_ := Aside0.mk trivial
 go_upto_if 15 with (first | (clear TK0_; (with_reducible refine gate_dst (N := 4) rfl ?_); refine box_event ?hg (N := 4) ?hd (cs := #[.int .i64 0, .slice none 0 0]) (t := 40) ?hr ?_; (case hd => rfl); (case hg => rfl); (case hr => first | (go_simp; done) | (go_simp; rfl)); intro gb252 hg w6 hbox hb; have n0_ := Aside0.mk (IsS127.below (by repeat (first | (with_reducible first | exact HI0.out | apply IsS127.alloc | apply IsS127.drewN | apply IsS127.drew | apply IsS127.set_1) | exact HI0.out)) hb); have n1_ := Aside0.mk (KeepBut.trans (by repeat (first | (with_reducible first | exact HK.out | apply KeepBut.set_ | apply keep_drewN | apply keep_drew | apply keep_alloc) | exact HK.out)) (KeepBut.of_below hb g none) (.inl rfl)); have n2_ := Aside0.mk (below_step (by repeat (first | (with_reducible first | exact HB.out | apply below_alloc | apply pw_below_drewN | apply below_drew1 | refine below_set ?_ (IsS127.ge HI0.out)) | exact HB.out)) hb); have n3_ := Aside0.mk (hbox); have n4_ := Aside0.mk ((by rw [hg]; exact (keep_size (w := w) (g := g) (row := none) (by repeat (first | (with_reducible first | exact HK.out | apply KeepBut.set_ | apply keep_drewN | apply keep_drew | apply keep_alloc) | exact HK.out))) : w.heap.size ≤ gb252)); have n5_ := Aside0.mk ((Nat.le_trans HW0.out (by rw [hg]; exact (keep_size (w := w) (g := g) (row := none) (by repeat (first | (with_reducible first | exact HK.out | apply KeepBut.set_ | apply keep_drewN | apply keep_drew | apply keep_alloc) | exact HK.out))) : w.heap.size ≤ gb252) : w0.heap.size ≤ gb252)); have n6_ := Aside0.mk ((by rw [hg]; exact Nat.ne_of_lt (IsS127.lt (show IsS127 w0 _ g s0_0 s0_1 from by repeat (first | (with_reducible first | exact HI0.out | apply IsS127.alloc | apply IsS127.drewN | apply IsS127.drew | apply IsS127.set_1) | exact HI0.out))) : g ≠ gb252)); have n7_ := Aside0.mk ((by rw [hg]; exact Nat.ne_of_gt (IsS127.lt (show IsS127 w0 _ g s0_0 s0_1 from by repeat (first | (with_reducible first | exact HI0.out | apply IsS127.alloc | apply IsS127.drewN | apply IsS127.drew | apply IsS127.set_1) | exact HI0.out))) : gb252 ≠ g)); clear HI0 HK HB; have HI0 := n0_; have HK := n1_; have HB := n2_; have BK252 := n3_; have GW252 := n4_; have GE252 := n5_; have NB0_252 := n6_; have NB252_0 := n7_; clear n0_ n1_ n2_ n3_ n4_ n5_ n6_ n7_; clear hb hbox hg) | (clear TK1_; (with_reducible refine gate_callee (f := 60) rfl ?_); refine goesL_ (some 10) rfl rfl Tryd.func60 (by kernel_rfl) rfl #[.pointer (some ⟨g, 0, none⟩), .int .i64 8] rfl (by (try simp only [List.map_toArray, List.map_cons, List.map_nil]); first | done | rfl | (simp only [List.length_drop, List.length_take]; rfl)) ?_; (with_reducible refine (spec_l20Rd_pick.calls k g s0_0 s0_1 8 t253 t254 w0 _ ?side1 ?side2 A3.out).mono ?_); (case side1 => repeat (first | (with_reducible first | exact HI0.out | apply IsS127.alloc | apply IsS127.drewN | apply IsS127.drew | apply IsS127.set_1 | refine IsS127.far ?_ NB0_252.out _) | exact HI0.out)); (case side2 => repeat (first | (with_reducible first | exact HB.out | apply below_alloc | apply pw_below_drewN | apply below_drew1 | refine below_set ?_ (IsS127.ge HI0.out) | refine below_set ?_ GE252.out) | exact HB.out)); rintro e w7 ⟨rfl, hi, hb, hk⟩; refine ⟨_, rfl, ?_⟩; have n0_ := Aside0.mk (KeepBut.blk hk (g' := gb252) (o := .cells #[.int .i64 0, .slice none 0 0] 40 (0, 0)) (bk BK252) NB252_0.out (by simp)); have n1_ := Aside0.mk (KeepBut.trans (by repeat (first | (with_reducible first | exact HK.out | apply KeepBut.set_ | apply keep_drewN | apply keep_drew | apply keep_alloc | refine keep_far ?_ GW252.out _) | exact HK.out)) hk (.inl rfl)); have n2_ := Aside0.mk (hb); have n3_ := Aside0.mk (hi); clear BK252 HK HB HI0; have BK252 := n0_; have HK := n1_; have HB := n2_; have HI0 := n3_; clear n0_ n1_ n2_ n3_; (try clear hb); (try clear hb2); (try clear hk); (try clear hi)) | (clear TK2_; (with_reducible refine gate_dst (N := 5) rfl ?_); refine box_event ?hg (N := 5) ?hd (cs := #[.int .i64 0, .slice none 0 0]) (t := 40) ?hr ?_; (case hd => rfl); (case hg => rfl); (case hr => first | (go_simp; done) | (go_simp; rfl)); intro gb255 hg w8 hbox hb; have n0_ := Aside0.mk (IsS127.below (by repeat (first | (with_reducible first | exact HI0.out | apply IsS127.alloc | apply IsS127.drewN | apply IsS127.drew | apply IsS127.set_1 | refine IsS127.far ?_ NB0_252.out _) | exact HI0.out)) hb); have n1_ := bkB BK252 hb; have n2_ := Aside0.mk (KeepBut.trans (by repeat (first | (with_reducible first | exact HK.out | apply KeepBut.set_ | apply keep_drewN | apply keep_drew | apply keep_alloc | refine keep_far ?_ GW252.out _) | exact HK.out)) (KeepBut.of_below hb g none) (.inl rfl)); have n3_ := Aside0.mk (below_step (by repeat (first | (with_reducible first | exact HB.out | apply below_alloc | apply pw_below_drewN | apply below_drew1 | refine below_set ?_ (IsS127.ge HI0.out) | refine below_set ?_ GE252.out) | exact HB.out)) hb); have n4_ := Aside0.mk (hbox); have n5_ := Aside0.mk ((by rw [hg]; exact (keep_size (w := w) (g := g) (row := none) (by repeat (first | (with_reducible first | exact HK.out | apply KeepBut.set_ | apply keep_drewN | apply keep_drew | apply keep_alloc | refine keep_far ?_ GW252.out _) | exact HK.out))) : w.heap.size ≤ gb255)); have n6_ := Aside0.mk ((Nat.le_trans HW0.out (by rw [hg]; exact (keep_size (w := w) (g := g) (row := none) (by repeat (first | (with_reducible first | exact HK.out | apply KeepBut.set_ | apply keep_drewN | apply keep_drew | apply keep_alloc | refine keep_far ?_ GW252.out _) | exact HK.out))) : w.heap.size ≤ gb255) : w0.heap.size ≤ gb255)); have n7_ := Aside0.mk ((by rw [hg]; exact Nat.ne_of_lt (blk_lt (g := gb252) (o := .cells #[.int .i64 0, .slice none 0 0] 40 (0, 0)) (bk BK252)) : gb252 ≠ gb255)); have n8_ := Aside0.mk ((by rw [hg]; exact Nat.ne_of_gt (blk_lt (g := gb252) (o := .cells #[.int .i64 0, .slice none 0 0] 40 (0, 0)) (bk BK252)) : gb255 ≠ gb252)); have n9_ := Aside0.mk ((by rw [hg]; exact Nat.ne_of_lt (IsS127.lt (show IsS127 w0 _ g s0_0 t254 from by repeat (first | (with_reducible first | exact HI0.out | apply IsS127.alloc | apply IsS127.drewN | apply IsS127.drew | apply IsS127.set_1 | refine IsS127.far ?_ NB0_252.out _) | exact HI0.out))) : g ≠ gb255)); have n10_ := Aside0.mk ((by rw [hg]; exact Nat.ne_of_gt (IsS127.lt (show IsS127 w0 _ g s0_0 t254 from by repeat (first | (with_reducible first | exact HI0.out | apply IsS127.alloc | apply IsS127.drewN | apply IsS127.drew | apply IsS127.set_1 | refine IsS127.far ?_ NB0_252.out _) | exact HI0.out))) : gb255 ≠ g)); clear HI0 BK252 HK HB; have HI0 := n0_; have BK252 := n1_; have HK := n2_; have HB := n3_; have BK255 := n4_; have GW255 := n5_; have GE255 := n6_; have NB252_255 := n7_; have NB255_252 := n8_; have NB0_255 := n9_; have NB255_0 := n10_; clear n0_ n1_ n2_ n3_ n4_ n5_ n6_ n7_ n8_ n9_ n10_; clear hb hbox hg; have hnb9 := NB255_252.out; have hnc9 := NB252_255.out; have hnb10 := NB255_0.out; have hnc10 := NB0_255.out; have hcz11_0 : w8.cell? ⟨gb255, 0, none⟩ = some (.int .i64 0) := (blk_cell BK255.out 0).trans rfl; have hcz11_1 : w8.cell? ⟨gb255, 1, none⟩ = some (.slice none 0 0) := (blk_cell BK255.out 1).trans rfl; have hfz11_0 := blk_frozen BK255.out 0; have hfz11_1 := blk_frozen BK255.out 1) | (clear TK3_; (with_reducible refine gate_callee (f := 60) rfl ?_); refine goesL_ (some 14) rfl rfl Tryd.func60 (by kernel_rfl) rfl #[.pointer (some ⟨g, 0, none⟩), .int .i64 3] rfl (by (try simp only [List.map_toArray, List.map_cons, List.map_nil]); first | done | rfl | (simp only [List.length_drop, List.length_take]; rfl)) ?_; (with_reducible refine (spec_l20Rd_pick.calls k g s0_0 t254 3 t256 t257 w0 _ ?side1 ?side2 A4.out).mono ?_); (case side1 => repeat (first | (with_reducible first | exact HI0.out | apply IsS127.alloc | apply IsS127.drewN | apply IsS127.drew | apply IsS127.set_1 | refine IsS127.far ?_ NB0_252.out _ | refine IsS127.far ?_ NB0_255.out _) | exact HI0.out)); (case side2 => repeat (first | (with_reducible first | exact HB.out | apply below_alloc | apply pw_below_drewN | apply below_drew1 | refine below_set ?_ (IsS127.ge HI0.out) | refine below_set ?_ GE252.out | refine below_set ?_ GE255.out) | exact HB.out)); rintro e w12 ⟨rfl, hi, hb, hk⟩; refine ⟨_, rfl, ?_⟩; have n0_ := Aside0.mk (KeepBut.blk hk (g' := gb252) (o := .cells #[.int .i64 0, .slice none 0 0] 40 (0, 0)) (by (with_reducible repeat (first | refine blk_drewN ?_ _ | refine blk_drew ?_ | refine blk_alloc ?_ _)); refine blk_far ?_ NB252_255.out _; (with_reducible repeat (first | refine blk_drewN ?_ _ | refine blk_drew ?_ | refine blk_alloc ?_ _)); refine blk_far ?_ NB252_255.out _; (with_reducible repeat (first | refine blk_drewN ?_ _ | refine blk_drew ?_ | refine blk_alloc ?_ _)); exact BK252.out) NB252_0.out (by simp)); have n1_ := Aside0.mk (KeepBut.blk hk (g' := gb255) (o := .cells #[.int .i64 (wrap64 (1 + t253)), .slice none 0 0] 40 (0, 0)) (by (with_reducible repeat (first | refine blk_drewN ?_ _ | refine blk_drew ?_ | refine blk_alloc ?_ _)); refine blk_put (cs := #[.int .i64 (wrap64 (1 + t253)), .slice none 0 0]) ?_ 1 _ rfl; (with_reducible repeat (first | refine blk_drewN ?_ _ | refine blk_drew ?_ | refine blk_alloc ?_ _)); refine blk_put (cs := #[.int .i64 0, .slice none 0 0]) ?_ 0 _ rfl; (with_reducible repeat (first | refine blk_drewN ?_ _ | refine blk_drew ?_ | refine blk_alloc ?_ _)); exact BK255.out) NB255_0.out (by simp)); have n2_ := Aside0.mk (KeepBut.trans (by repeat (first | (with_reducible first | exact HK.out | apply KeepBut.set_ | apply keep_drewN | apply keep_drew | apply keep_alloc | refine keep_far ?_ GW252.out _ | refine keep_far ?_ GW255.out _) | exact HK.out)) hk (.inl rfl)); have n3_ := Aside0.mk (hb); have n4_ := Aside0.mk (hi); clear BK252 BK255 HK HB HI0; have BK252 := n0_; have BK255 := n1_; have HK := n2_; have HB := n3_; have HI0 := n4_; clear n0_ n1_ n2_ n3_ n4_; (try clear hb); (try clear hb2); (try clear hk); (try clear hi)))
 (try simp only [Act.put, List.setIfInBounds_toArray, List.set_cons_zero, List.set_cons_succ])
 go_cut [] (fun wc => ∃ (kq : Nat) (x1001_4 : Int) (x256000_4 : Int), Aside0 (spec_l20Net.j0 kq a1 s0_0 x1001_4 x256000_4 = some (r1, r2, r3)) ∧ Aside0 (kq ≤ k) ∧ Aside0 (wc.heap[gb252]? = some (.cells #[.int .i64 0, (.slice none 0 0)] 40 (0, 0))) ∧ Aside0 (wc.heap[gb255]? = some (.cells #[.int .i64 x256000_4, (.slice none 0 0)] 40 (0, 0))) ∧ Aside0 (IsS127 w0 wc g s0_0 x1001_4) ∧ Aside0 (KeepBut w wc g none) ∧ Aside0 (Below w0.heap.size w0 wc))
 case first =>
  have H := HC5.out
  clear HC5
  by_cases c13 : t256 > 0
  ·rw [if_pos c13] at H
   have c13b0 : decide (0 < t256) = true := decide_eq_true c13
   clear c13
   (first | rw [c13b0] | (simp only [i64_w, i32_w]; rw [c13b0]) | skip)
   replace H := Option.bind_eq_some_iff.mp H
   obtain ⟨⟨t258, t259⟩, A140, H⟩ := H
   replace H : (spec_l20Net.j0 k a1 s0_0 t259 (wrap64 (4 + t258))) = some (r1, r2, r3) := H
   have A14 := Aside0.mk A140
   clear A140
   have H' := Aside0.mk H
   clear H
   go_wp2_with (first | ((with_reducible refine gate_callee (f := 60) rfl ?_); refine goesL_ (some 17) rfl rfl Tryd.func60 (by kernel_rfl) rfl #[.pointer (some ⟨g, 0, none⟩), .int .i64 4] rfl (by (try simp only [List.map_toArray, List.map_cons, List.map_nil]); first | done | rfl | (simp only [List.length_drop, List.length_take]; rfl)) ?_; (with_reducible refine (spec_l20Rd_pick.calls k g s0_0 t257 4 t258 t259 w0 _ ?side1 ?side2 A14.out).mono ?_); (case side1 => repeat (first | (with_reducible first | exact HI0.out | apply IsS127.alloc | apply IsS127.drewN | apply IsS127.drew | apply IsS127.set_1 | refine IsS127.far ?_ NB0_252.out _ | refine IsS127.far ?_ NB0_255.out _) | exact HI0.out)); (case side2 => repeat (first | (with_reducible first | exact HB.out | apply below_alloc | apply pw_below_drewN | apply below_drew1 | refine below_set ?_ (IsS127.ge HI0.out) | refine below_set ?_ GE252.out | refine below_set ?_ GE255.out) | exact HB.out)); rintro e w15 ⟨rfl, hi, hb, hk⟩; refine ⟨_, rfl, ?_⟩; have n0_ := Aside0.mk (KeepBut.blk hk (g' := gb252) (o := .cells #[.int .i64 0, .slice none 0 0] 40 (0, 0)) (bk BK252) NB252_0.out (by simp)); have n1_ := Aside0.mk (KeepBut.blk hk (g' := gb255) (o := .cells #[.int .i64 (wrap64 (1 + t253)), .slice none 0 0] 40 (0, 0)) (bk BK255) NB255_0.out (by simp)); have n2_ := Aside0.mk (KeepBut.trans (by repeat (first | (with_reducible first | exact HK.out | apply KeepBut.set_ | apply keep_drewN | apply keep_drew | apply keep_alloc | refine keep_far ?_ GW252.out _ | refine keep_far ?_ GW255.out _) | exact HK.out)) hk (.inl rfl)); have n3_ := Aside0.mk (hb); have n4_ := Aside0.mk (hi); clear BK252 BK255 HK HB HI0; have BK252 := n0_; have BK255 := n1_; have HK := n2_; have HB := n3_; have HI0 := n4_; clear n0_ n1_ n2_ n3_ n4_; (try clear hb); (try clear hb2); (try clear hk); (try clear hi); have hnb16 := NB255_252.out; have hnc16 := NB252_255.out; have hnb17 := NB255_0.out; have hnc17 := NB0_255.out; have hcz18_0 : w15.cell? ⟨gb255, 0, none⟩ = some (.int .i64 (wrap64 (1 + t253))) := (blk_cell BK255.out 0).trans rfl; have hcz18_1 : w15.cell? ⟨gb255, 1, none⟩ = some (.slice none 0 0) := (blk_cell BK255.out 1).trans rfl; have hfz18_0 := blk_frozen BK255.out 0; have hfz18_1 := blk_frozen BK255.out 1))
   go_meet
   case rel => exact ⟨_, (t259), (wrap64 (4 + t258)), H', ⟨by first | omega | exact Nat.le_refl _⟩, ⟨by (with_reducible repeat (first | refine blk_drewN ?_ _ | refine blk_drew ?_ | refine blk_alloc ?_ _)); refine blk_far ?_ NB252_255.out _; (with_reducible repeat (first | refine blk_drewN ?_ _ | refine blk_drew ?_ | refine blk_alloc ?_ _)); exact BK252.out⟩, ⟨by (with_reducible repeat (first | refine blk_drewN ?_ _ | refine blk_drew ?_ | refine blk_alloc ?_ _)); refine blk_put (cs := #[.int .i64 (wrap64 (1 + t253)), .slice none 0 0]) ?_ 0 _ rfl; (with_reducible repeat (first | refine blk_drewN ?_ _ | refine blk_drew ?_ | refine blk_alloc ?_ _)); exact BK255.out⟩, ⟨by repeat (first | (with_reducible first | exact HI0.out | apply IsS127.alloc | apply IsS127.drewN | apply IsS127.drew | apply IsS127.set_1 | refine IsS127.far ?_ NB0_252.out _ | refine IsS127.far ?_ NB0_255.out _) | exact HI0.out)⟩, ⟨by repeat (first | (with_reducible first | exact HK.out | apply KeepBut.set_ | apply keep_drewN | apply keep_drew | apply keep_alloc | refine keep_far ?_ GW252.out _ | refine keep_far ?_ GW255.out _) | exact HK.out)⟩, ⟨by repeat (first | (with_reducible first | exact HB.out | apply below_alloc | apply pw_below_drewN | apply below_drew1 | refine below_set ?_ (IsS127.ge HI0.out) | refine below_set ?_ GE252.out | refine below_set ?_ GE255.out) | exact HB.out)⟩⟩
  ·rw [if_neg c13] at H
   have c13b0 : decide (0 < t256) = false := decide_eq_false c13
   clear c13
   (first | rw [c13b0] | (simp only [i64_w, i32_w]; rw [c13b0]) | skip)
   have H' := Aside0.mk H
   clear H
   go_wp2
   go_meet
   case rel => exact ⟨_, (t257), (wrap64 (1 + t253)), H', ⟨by first | omega | exact Nat.le_refl _⟩, ⟨bk BK252⟩, ⟨bk BK255⟩, ⟨by repeat (first | (with_reducible first | exact HI0.out | apply IsS127.alloc | apply IsS127.drewN | apply IsS127.drew | apply IsS127.set_1 | refine IsS127.far ?_ NB0_252.out _ | refine IsS127.far ?_ NB0_255.out _) | exact HI0.out)⟩, ⟨by repeat (first | (with_reducible first | exact HK.out | apply KeepBut.set_ | apply keep_drewN | apply keep_drew | apply keep_alloc | refine keep_far ?_ GW252.out _ | refine keep_far ?_ GW255.out _) | exact HK.out)⟩, ⟨by repeat (first | (with_reducible first | exact HB.out | apply below_alloc | apply pw_below_drewN | apply below_drew1 | refine below_set ?_ (IsS127.ge HI0.out) | refine below_set ?_ GE252.out | refine below_set ?_ GE255.out) | exact HB.out)⟩⟩
 case rest =>
  clear HC5
  try clear c1
  try clear p2
  try clear c5
  try clear c6
  try clear p6
  try clear c9
  try clear c10
  try clear c13
  try clear c13b0
  try clear c16
  try clear c17
  try clear hcz11_0
  try clear hcz11_1
  try clear hcz18_0
  try clear hcz18_1
  try clear hfz11_0
  try clear hfz11_1
  try clear hfz18_0
  try clear hfz18_1
  obtain ⟨kq, x1001_4, x256000_4, HA, HJ4, BK252, BK255, HI0, HK, HB⟩ := hcut
  cases kq with
  | zero => exact absurd HA.out (by simp [spec_l20Net.j0])
  | succ kj4 =>
   have H := HA.out
   clear HA
   simp only [spec_l20Net.j0] at H
   replace H := Option.bind_eq_some_iff.mp H
   obtain ⟨⟨t260, t261⟩, A190, H⟩ := H
   replace H : (spec_l20Net.l0 kj4 a1 t260 s0_0 t261 x256000_4 ([] : List (S42))) = some (r1, r2, r3) := H
   have A19 := Aside0.mk A190
   clear A190
   have H' := Aside0.mk H
   clear H
   go_wp2_with (first | ((with_reducible refine gate_callee (f := 60) rfl ?_); refine goesL_ (some 21) rfl rfl Tryd.func60 (by kernel_rfl) rfl #[.pointer (some ⟨g, 0, none⟩), .int .i64 11] rfl (by (try simp only [List.map_toArray, List.map_cons, List.map_nil]); first | done | rfl | (simp only [List.length_drop, List.length_take]; rfl)) ?_; (with_reducible refine (spec_l20Rd_pick.calls kj4 g s0_0 x1001_4 11 t260 t261 w0 _ ?side1 ?side2 A19.out).mono ?_); (case side1 => repeat (first | (with_reducible first | exact HI0.out | apply IsS127.alloc | apply IsS127.drewN | apply IsS127.drew | apply IsS127.set_1 | refine IsS127.far ?_ NB0_252.out _ | refine IsS127.far ?_ NB0_255.out _) | exact HI0.out)); (case side2 => repeat (first | (with_reducible first | exact HB.out | apply below_alloc | apply pw_below_drewN | apply below_drew1 | refine below_set ?_ (IsS127.ge HI0.out) | refine below_set ?_ GE252.out | refine below_set ?_ GE255.out) | exact HB.out)); rintro e w20 ⟨rfl, hi, hb, hk⟩; refine ⟨_, rfl, ?_⟩; have n0_ := Aside0.mk (KeepBut.blk hk (g' := gb252) (o := .cells #[.int .i64 0, .slice none 0 0] 40 (0, 0)) (bk BK252) NB252_0.out (by simp)); have n1_ := Aside0.mk (KeepBut.blk hk (g' := gb255) (o := .cells #[.int .i64 x256000_4, .slice none 0 0] 40 (0, 0)) (bk BK255) NB255_0.out (by simp)); have n2_ := Aside0.mk (KeepBut.trans (by repeat (first | (with_reducible first | exact HK.out | apply KeepBut.set_ | apply keep_drewN | apply keep_drew | apply keep_alloc | refine keep_far ?_ GW252.out _ | refine keep_far ?_ GW255.out _) | exact HK.out)) hk (.inl rfl)); have n3_ := Aside0.mk (hb); have n4_ := Aside0.mk (hi); clear BK252 BK255 HK HB HI0; have BK252 := n0_; have BK255 := n1_; have HK := n2_; have HB := n3_; have HI0 := n4_; clear n0_ n1_ n2_ n3_ n4_; (try clear hb); (try clear hb2); (try clear hk); (try clear hi)))
   go_loopg [6] kj4 (fun kq v6 w' => ∃ (x6_2 : Int) (x1001_2 : Int) (x256001_2 : List (S42)) (u256001 : Value), v6 = .int .i64 x6_2 ∧ Aside0 (spec_l20Net.l0 kq a1 x6_2 s0_0 x1001_2 x256000_4 x256001_2 = some (r1, r2, r3)) ∧ Aside0 (kq ≤ kj4) ∧ Aside0 (Kd.R k42 42 w' w.heap.size (fun _ => True) u256001 x256001_2) ∧ Aside0 (w'.heap[gb252]? = some (.cells #[.int .i64 0, (.slice none 0 0)] 40 (0, 0))) ∧ Aside0 (w'.heap[gb255]? = some (.cells #[.int .i64 x256000_4, u256001] 40 (0, 0))) ∧ Aside0 (IsS127 w0 w' g s0_0 x1001_2) ∧ Aside0 (KeepBut w w' g none) ∧ Aside0 (Below w0.heap.size w0 w'))
   case atStart => exact ⟨(t260), (t261), (([] : List (S42))), (.slice none 0 0), (by first | rfl | (simp; done) | (simp [*]; done)), H', ⟨Nat.le_refl _⟩, ⟨by first | exact Kd.R_nil _ _ _ _ _ | exact Kd.N_nil _ _ _ _ _ | exact Kd.V_nil _ _ _ _ _ | exact Kd.Q_nil _ _ _ _ _ | exact Kd.S_nil _ _ _ _ _⟩, ⟨bk BK252⟩, ⟨bk BK255⟩, ⟨by repeat (first | (with_reducible first | exact HI0.out | apply IsS127.alloc | apply IsS127.drewN | apply IsS127.drew | apply IsS127.set_1 | refine IsS127.far ?_ NB0_252.out _ | refine IsS127.far ?_ NB0_255.out _) | exact HI0.out)⟩, ⟨by repeat (first | (with_reducible first | exact HK.out | apply KeepBut.set_ | apply keep_drewN | apply keep_drew | apply keep_alloc | refine keep_far ?_ GW252.out _ | refine keep_far ?_ GW255.out _) | exact HK.out)⟩, ⟨by repeat (first | (with_reducible first | exact HB.out | apply below_alloc | apply pw_below_drewN | apply below_drew1 | refine below_set ?_ (IsS127.ge HI0.out) | refine below_set ?_ GE252.out | refine below_set ?_ GE255.out) | exact HB.out)⟩⟩
   case round =>
    clear H'
    try clear c1
    try clear p2
    try clear c5
    try clear c6
    try clear p6
    try clear c9
    try clear c10
    try clear c13
    try clear c13b0
    try clear c16
    try clear c17
    try clear hcz11_0
    try clear hcz11_1
    try clear hcz18_0
    try clear hcz18_1
    try clear hfz11_0
    try clear hfz11_1
    try clear hfz18_0
    try clear hfz18_1
    try clear p2
    try clear p6
    obtain ⟨x6_2, x1001_2, x256001_2, u256001, rfl, HA, HK2, HO_256001, BK252, BK255, HI0, HK, HB⟩ := hrel
    cases gk with
    | zero => exact absurd HA.out (by simp [spec_l20Net.l0])
    | succ k2 =>
     have H := HA.out
     clear HA
     simp only [spec_l20Net.l0] at H
     have HC21 := Aside0.mk H
     clear H
     go_upto_region 5 with (fail)
     go_cut [28] (fun v28 wc => ∃ (kq : Nat) (x28_20 : Bool), v28 = .bool x28_20 ∧ Aside0 (spec_l20Net.j2 kq a1 x6_2 x28_20 s0_0 x1001_2 x256000_4 x256001_2 = some (r1, r2, r3)) ∧ Aside0 (kq ≤ k2) ∧ Aside0 (Kd.R k42 42 wc w.heap.size (fun _ => True) u256001 x256001_2) ∧ Aside0 (wc.heap[gb252]? = some (.cells #[.int .i64 0, (.slice none 0 0)] 40 (0, 0))) ∧ Aside0 (wc.heap[gb255]? = some (.cells #[.int .i64 x256000_4, u256001] 40 (0, 0))) ∧ Aside0 (IsS127 w0 wc g s0_0 x1001_2) ∧ Aside0 (KeepBut w wc g none) ∧ Aside0 (Below w0.heap.size w0 wc))
     case first =>
      have H := HC21.out
      clear HC21
      by_cases c22 : x6_2 > 0
      ·rw [if_pos c22] at H
       have c22b0 : decide (0 < x6_2) = true := decide_eq_true c22
       clear c22
       (first | rw [c22b0] | (simp only [i64_w, i32_w]; rw [c22b0]) | skip)
       have H' := Aside0.mk H
       clear H
       have hnb23 := NB255_252.out
       have hnc23 := NB252_255.out
       have hnb24 := NB255_0.out
       have hnc24 := NB0_255.out
       have hcz25_0 : wr.cell? ⟨gb255, 0, none⟩ = some (.int .i64 x256000_4) := (blk_cell BK255.out 0).trans rfl
       have hcz25_1 : wr.cell? ⟨gb255, 1, none⟩ = some (u256001) := (blk_cell BK255.out 1).trans rfl
       have hfz25_0 := blk_frozen BK255.out 0
       have hfz25_1 := blk_frozen BK255.out 1
       go_wp2
       go_meet
       case rel => exact ⟨_, (decide (x256000_4 > 1)), (by first | rfl | (simp; done) | (simp [*]; done)), H', ⟨by have := HJ4.out; have := HK2.out; first | omega | exact Nat.le_refl _⟩, ⟨rk HO_256001⟩, ⟨bk BK252⟩, ⟨bk BK255⟩, ⟨by repeat (first | (with_reducible first | exact HI0.out | apply IsS127.alloc | apply IsS127.drewN | apply IsS127.drew | apply IsS127.set_1 | refine IsS127.far ?_ NB0_252.out _ | refine IsS127.far ?_ NB0_255.out _) | exact HI0.out)⟩, ⟨by repeat (first | (with_reducible first | exact HK.out | apply KeepBut.set_ | apply keep_drewN | apply keep_drew | apply keep_alloc | refine keep_far ?_ GW252.out _ | refine keep_far ?_ GW255.out _) | exact HK.out)⟩, ⟨by repeat (first | (with_reducible first | exact HB.out | apply below_alloc | apply pw_below_drewN | apply below_drew1 | refine below_set ?_ (IsS127.ge HI0.out) | refine below_set ?_ GE252.out | refine below_set ?_ GE255.out) | exact HB.out)⟩⟩
      ·rw [if_neg c22] at H
       have c22b0 : decide (0 < x6_2) = false := decide_eq_false c22
       clear c22
       (first | rw [c22b0] | (simp only [i64_w, i32_w]; rw [c22b0]) | skip)
       have H' := Aside0.mk H
       clear H
       go_wp2
       go_meet
       case rel => exact ⟨_, (false), (by first | rfl | (simp; done) | (simp [*]; done)), H', ⟨by have := HJ4.out; have := HK2.out; first | omega | exact Nat.le_refl _⟩, ⟨rk HO_256001⟩, ⟨bk BK252⟩, ⟨bk BK255⟩, ⟨by repeat (first | (with_reducible first | exact HI0.out | apply IsS127.alloc | apply IsS127.drewN | apply IsS127.drew | apply IsS127.set_1 | refine IsS127.far ?_ NB0_252.out _ | refine IsS127.far ?_ NB0_255.out _) | exact HI0.out)⟩, ⟨by repeat (first | (with_reducible first | exact HK.out | apply KeepBut.set_ | apply keep_drewN | apply keep_drew | apply keep_alloc | refine keep_far ?_ GW252.out _ | refine keep_far ?_ GW255.out _) | exact HK.out)⟩, ⟨by repeat (first | (with_reducible first | exact HB.out | apply below_alloc | apply pw_below_drewN | apply below_drew1 | refine below_set ?_ (IsS127.ge HI0.out) | refine below_set ?_ GE252.out | refine below_set ?_ GE255.out) | exact HB.out)⟩⟩
     case rest =>
      clear HC21
      try clear c1
      try clear c2
      try clear p2
      try clear c5
      try clear c6
      try clear p6
      try clear c9
      try clear c10
      try clear c13
      try clear c13b0
      try clear c16
      try clear c17
      try clear c22
      try clear c22b0
      try clear c23
      try clear c24
      try clear hcz11_0
      try clear hcz11_1
      try clear hcz18_0
      try clear hcz18_1
      try clear hcz25_0
      try clear hcz25_1
      try clear hfz11_0
      try clear hfz11_1
      try clear hfz18_0
      try clear hfz18_1
      try clear hfz25_0
      try clear hfz25_1
      try clear p2
      try clear p6
      obtain ⟨kq, x28_20, rfl, HA, HJ20, HO_256001, BK252, BK255, HI0, HK, HB⟩ := hcut
      cases kq with
      | zero => exact absurd HA.out (by simp [spec_l20Net.j2])
      | succ kj20 =>
       have H := HA.out
       clear HA
       simp only [spec_l20Net.j2] at H
       by_cases c26 : x28_20 = true
       ·subst c26
        have H1 : ((spec_l20Rd_pick.f kj20 s0_0 x1001_2 x256000_4).bind fun bt262 => ((spec_l20Rd_pick.f kj20 s0_0 bt262.2 (wrap64 (x256000_4 - 1))).bind fun bt264 => (if x256000_4 = 0 then (none) else ((spec_l20Rd_pick.f kj20 s0_0 bt264.2 40).bind fun bt266 => (if x256001_2.length < 5864062014805 then (spec_l20Net.l0 kj20 a1 (wrap64 (x6_2 - 1)) s0_0 bt266.2 x256000_4 (x256001_2 ++ [(⟨bt262.1, Int.tmod (wrap64 ((wrap64 (bt262.1 + 1)) + bt264.1)) x256000_4, wrap64 (1 + bt266.1)⟩ : S42)])) else (none)))))) = some (r1, r2, r3) := by rw [if_pos rfl] at H; exact H
        clear H
        have H := H1
        clear H1
        replace H := Option.bind_eq_some_iff.mp H
        obtain ⟨⟨t262, t263⟩, A270, H⟩ := H
        replace H : ((spec_l20Rd_pick.f kj20 s0_0 t263 (wrap64 (x256000_4 - 1))).bind fun bt264 => (if x256000_4 = 0 then (none) else ((spec_l20Rd_pick.f kj20 s0_0 bt264.2 40).bind fun bt266 => (if x256001_2.length < 5864062014805 then (spec_l20Net.l0 kj20 a1 (wrap64 (x6_2 - 1)) s0_0 bt266.2 x256000_4 (x256001_2 ++ [(⟨t262, Int.tmod (wrap64 ((wrap64 (t262 + 1)) + bt264.1)) x256000_4, wrap64 (1 + bt266.1)⟩ : S42)])) else (none))))) = some (r1, r2, r3) := H
        have A27 := Aside0.mk A270
        clear A270
        replace H := Option.bind_eq_some_iff.mp H
        obtain ⟨⟨t264, t265⟩, A280, H⟩ := H
        replace H : (if x256000_4 = 0 then (none) else ((spec_l20Rd_pick.f kj20 s0_0 t265 40).bind fun bt266 => (if x256001_2.length < 5864062014805 then (spec_l20Net.l0 kj20 a1 (wrap64 (x6_2 - 1)) s0_0 bt266.2 x256000_4 (x256001_2 ++ [(⟨t262, Int.tmod (wrap64 ((wrap64 (t262 + 1)) + t264)) x256000_4, wrap64 (1 + bt266.1)⟩ : S42)])) else (none)))) = some (r1, r2, r3) := H
        have A28 := Aside0.mk A280
        clear A280
        by_cases c29 : x256000_4 = 0
        ·rw [if_pos c29] at H
         exact absurd H (by simp)
        ·rw [if_neg c29] at H
         have c29b0 : (x256000_4 == 0) = false := beq_eq_false_iff_ne.mpr c29
         have c29b1 : (x256000_4 != 0) = true := bne_iff_ne.mpr c29
         replace H := Option.bind_eq_some_iff.mp H
         obtain ⟨⟨t266, t267⟩, A300, H⟩ := H
         replace H : (if x256001_2.length < 5864062014805 then (spec_l20Net.l0 kj20 a1 (wrap64 (x6_2 - 1)) s0_0 t267 x256000_4 (x256001_2 ++ [(⟨t262, Int.tmod (wrap64 ((wrap64 (t262 + 1)) + t264)) x256000_4, wrap64 (1 + t266)⟩ : S42)])) else (none)) = some (r1, r2, r3) := H
         have A30 := Aside0.mk A300
         clear A300
         by_cases c31 : x256001_2.length < 5864062014805
         ·rw [if_pos c31] at H
          have LMc31 := Aside0.mk c31
          clear c31
          obtain ⟨y268, hy268⟩ : ∃ y_ : List (S42), y_ = (x256001_2 ++ [(⟨t262, Int.tmod (wrap64 ((wrap64 (t262 + 1)) + t264)) x256000_4, wrap64 (1 + t266)⟩ : S42)]) := ⟨_, rfl⟩
          replace H : (spec_l20Net.l0 kj20 a1 (wrap64 (x6_2 - 1)) s0_0 t267 x256000_4 y268) = some (r1, r2, r3) := by first | (rw [hy268]; with_reducible exact H) | (have H2_ := (Option.bind_some _ _).symm.trans H; rw [hy268]; with_reducible exact H2_) | (have H2_ := (Option.bind_some _ _).symm.trans H; with_reducible exact H2_) | with_reducible exact H | (rw [hy268]; exact H) | exact H
          have Ny268 := Aside0.mk hy268
          clear hy268
          have H' := Aside0.mk H
          clear H
          have hnb32 := NB255_252.out
          have hnc32 := NB252_255.out
          have hnb33 := NB255_0.out
          have hnc33 := NB0_255.out
          have hcz34_0 : wc.cell? ⟨gb255, 0, none⟩ = some (.int .i64 x256000_4) := (blk_cell BK255.out 0).trans rfl
          have hcz34_1 : wc.cell? ⟨gb255, 1, none⟩ = some (u256001) := (blk_cell BK255.out 1).trans rfl
          have hfz34_0 := blk_frozen BK255.out 0
          have hfz34_1 := blk_frozen BK255.out 1
          try go_wp2_with (first | ((with_reducible refine gate_callee (f := 60) rfl ?_); refine goesL_ (some 34) rfl rfl Tryd.func60 (by kernel_rfl) rfl #[.pointer (some ⟨g, 0, none⟩), .int .i64 x256000_4] rfl (by (try simp only [List.map_toArray, List.map_cons, List.map_nil]); first | done | rfl | (simp only [List.length_drop, List.length_take]; rfl)) ?_; (with_reducible refine (spec_l20Rd_pick.calls kj20 g s0_0 x1001_2 x256000_4 t262 t263 w0 _ ?side1 ?side2 A27.out).mono ?_); (case side1 => repeat (first | (with_reducible first | exact HI0.out | apply IsS127.alloc | apply IsS127.drewN | apply IsS127.drew | apply IsS127.set_1 | refine IsS127.far ?_ NB0_252.out _ | refine IsS127.far ?_ NB0_255.out _) | exact HI0.out)); (case side2 => repeat (first | (with_reducible first | exact HB.out | apply below_alloc | apply pw_below_drewN | apply below_drew1 | refine below_set ?_ (IsS127.ge HI0.out) | refine below_set ?_ GE252.out | refine below_set ?_ GE255.out) | exact HB.out)); rintro e w35 ⟨rfl, hi, hb, hk⟩; refine ⟨_, rfl, ?_⟩; have n0_ := Aside0.mk (Kd.R_mono (Kd.R_keep (IsS127.apart (show IsS127 w0 _ g s0_0 x1001_2 from by repeat (first | (with_reducible first | exact HI0.out | apply IsS127.alloc | apply IsS127.drewN | apply IsS127.drew | apply IsS127.set_1 | refine IsS127.far ?_ NB0_252.out _ | refine IsS127.far ?_ NB0_255.out _) | exact HI0.out)) (rk HO_256001) (by decide)) hk (fun _ h => h.2)) (fun _ h => h.1)); have n1_ := Aside0.mk (KeepBut.blk hk (g' := gb252) (o := .cells #[.int .i64 0, .slice none 0 0] 40 (0, 0)) (bk BK252) NB252_0.out (by simp)); have n2_ := Aside0.mk (KeepBut.blk hk (g' := gb255) (o := .cells #[.int .i64 x256000_4, u256001] 40 (0, 0)) (bk BK255) NB255_0.out (by simp)); have n3_ := Aside0.mk (KeepBut.trans (by repeat (first | (with_reducible first | exact HK.out | apply KeepBut.set_ | apply keep_drewN | apply keep_drew | apply keep_alloc | refine keep_far ?_ GW252.out _ | refine keep_far ?_ GW255.out _) | exact HK.out)) hk (.inl rfl)); have n4_ := Aside0.mk (hb); have n5_ := Aside0.mk (hi); clear HO_256001 BK252 BK255 HK HB HI0; have HO_256001 := n0_; have BK252 := n1_; have BK255 := n2_; have HK := n3_; have HB := n4_; have HI0 := n5_; clear n0_ n1_ n2_ n3_ n4_ n5_; (try clear hb); (try clear hb2); (try clear hk); (try clear hi)))
          have n0_ := Aside0.mk (Kd.R_drew HO_256001.out)
          have n1_ := Aside0.mk (blk_drew BK252.out)
          have n2_ := Aside0.mk (blk_drew BK255.out)
          have n3_ := Aside0.mk (IsS127.drew HI0.out)
          have n4_ := Aside0.mk (keep_drew HK.out)
          have n5_ := Aside0.mk (below_drew1 HB.out)
          clear HO_256001
          clear BK252
          clear BK255
          clear HI0
          clear HK
          clear HB
          have HO_256001 := n0_
          have BK252 := n1_
          have BK255 := n2_
          have HI0 := n3_
          have HK := n4_
          have HB := n5_
          clear n0_ n1_ n2_ n3_ n4_ n5_
          refine start_ (n := 12) (S := fun w' => w'.cell? ⟨gb255, 0, none⟩ = some (.int .i64 x256000_4) ∧ w'.cell? ⟨gb255, 1, none⟩ = some (u256001)) (ds := []) (bz 12 0) (by kernel_rfl) rfl rfl ⟨(blk_cell BK255.out 0).trans rfl, (blk_cell BK255.out 1).trans rfl⟩ (fun hHeld => ?_); refine with_tabW spec_l20Net.tab8 spec_l20Net.bits8 (fun HT_ HW_ => ?_)
          generalize w35.drew = w36 at HO_256001 BK252 BK255 HI0 HK HB hHeld ⊢
          refine pure_ (i := 0) (N := some 35) (v := ?_) (a' := ?_) (bz 12 1) rfl rfl (any_of HT_.out (by kernel_rfl)) (fun _ _ _ h => h) (Or.inl ⟨by rfl, ?_⟩) ?_ ?_
          rotate_left
          ·intro w'
           go_simp
           with_reducible rfl
          rotate_left
          ·simp only [Act.put, List.setIfInBounds_toArray, List.set_cons_zero, List.set_cons_succ, i64_w, i32_w]
           rfl
          refine pure_ (i := 1) (N := some 36) (v := ?_) (a' := ?_) (bz 12 3) rfl rfl (any_of HT_.out (by kernel_rfl)) (fun _ _ _ h => h) (Or.inl ⟨by rfl, ?_⟩) ?_ ?_
          rotate_left
          ·intro w'
           go_simp
           with_reducible rfl
          rotate_left
          ·simp only [Act.put, List.setIfInBounds_toArray, List.set_cons_zero, List.set_cons_succ, i64_w, i32_w]
           rfl
          refine pure_ (i := 2) (N := some 37) (v := ?_) (a' := ?_) (bz 12 7) rfl rfl (any_of HT_.out (by kernel_rfl)) (fun _ _ _ h => h) (Or.inl ⟨by rfl, ?_⟩) ?_ ?_
          rotate_left
          ·intro w'
           go_simp
           with_reducible rfl
          rotate_left
          ·simp only [Act.put, List.setIfInBounds_toArray, List.set_cons_zero, List.set_cons_succ, i64_w, i32_w]
           rfl
          refine pure_ (i := 3) (N := some 38) (v := ?_) (a' := ?_) (bz 12 15) rfl rfl (any_of HT_.out (by kernel_rfl)) (fun _ _ _ h => h) (Or.inl ⟨by rfl, ?_⟩) ?_ ?_
          rotate_left
          ·intro w'
           go_simp
           with_reducible rfl
          rotate_left
          ·simp only [Act.put, List.setIfInBounds_toArray, List.set_cons_zero, List.set_cons_succ, i64_w, i32_w]
           rfl
          refine pure_ (i := 8) (N := some 43) (v := ?_) (a' := ?_) (bz 12 271) rfl rfl (any_of HT_.out (by kernel_rfl)) (fun _ _ _ h => h) (Or.inl ⟨by rfl, ?_⟩) ?_ ?_
          rotate_left
          ·intro w'
           go_simp
           with_reducible rfl
          rotate_left
          ·simp only [Act.put, List.setIfInBounds_toArray, List.set_cons_zero, List.set_cons_succ, i64_w, i32_w]
           rfl
          refine take_ (i := 4) (N := some 39) (v := ?_) (a' := ?_) (bz 12 287) rfl rfl (take_ofW HT_.out HW_.out (by kernel_rfl)) (fun _ _ _ h => h) (Or.inl ⟨by rfl, ?_⟩) hHeld ?_ ?_
          rotate_left
          ·rintro w' ⟨s0, s1⟩
           go_simp
           with_reducible rfl
          rotate_left
          ·simp only [Act.put, List.setIfInBounds_toArray, List.set_cons_zero, List.set_cons_succ, i64_w, i32_w]
           rfl
          refine pure_ (i := 5) (N := some 40) (v := ?_) (a' := ?_) (bz 12 319) rfl rfl (any_of HT_.out (by kernel_rfl)) (fun _ _ _ h => h) (Or.inl ⟨by rfl, ?_⟩) ?_ ?_
          rotate_left
          ·intro w'
           go_simp
           with_reducible rfl
          rotate_left
          ·simp only [Act.put, List.setIfInBounds_toArray, List.set_cons_zero, List.set_cons_succ, i64_w, i32_w]
           rfl
          refine take_ (i := 9) (N := some 44) (v := ?_) (a' := ?_) (bz 12 831) rfl rfl (take_ofW HT_.out HW_.out (by kernel_rfl)) (fun _ _ _ h => h) (Or.inl ⟨by rfl, ?_⟩) hHeld ?_ ?_
          rotate_left
          ·rintro w' ⟨s0, s1⟩
           go_simp
           with_reducible rfl
          rotate_left
          ·simp only [Act.put, List.setIfInBounds_toArray, List.set_cons_zero, List.set_cons_succ, i64_w, i32_w]
           rfl
          refine one_ (i := 6) (N := some 41) (bz 12 895) rfl rfl (one_of HT_.out (by kernel_rfl)) (by decide) (fun K hK => ?_)
          refine goes_ Tryd.func60 (by kernel_rfl) rfl #[.pointer (some ⟨g, 0, none⟩), .int .i64 (wrap64 (x256000_4 - 1))] (by rfl) rfl rfl (by (try simp only [List.map_toArray, List.map_cons, List.map_nil]); first | done | rfl | (simp only [List.length_drop, List.length_take]; rfl)) ?_
          with_reducible refine (spec_l20Rd_pick.calls kj20 g s0_0 t263 (wrap64 (x256000_4 - 1)) t264 t265 w0 _ ?side1 ?side2 A28.out).mono ?_
          (case side1 => repeat (first | (with_reducible first | exact HI0.out | apply IsS127.alloc | apply IsS127.drewN | apply IsS127.drew | apply IsS127.set_1 | refine IsS127.far ?_ NB0_252.out _ | refine IsS127.far ?_ NB0_255.out _) | exact HI0.out))
          (case side2 => repeat (first | (with_reducible first | exact HB.out | apply below_alloc | apply pw_below_drewN | apply below_drew1 | refine below_set ?_ (IsS127.ge HI0.out) | refine below_set ?_ GE252.out | refine below_set ?_ GE255.out) | exact HB.out))
          rintro e w37 ⟨rfl, hi, hb, hk⟩
          refine ⟨_, rfl, ?_⟩
          have n0_ := Aside0.mk (Kd.R_mono (Kd.R_keep (IsS127.apart (show IsS127 w0 _ g s0_0 t263 from by repeat (first | (with_reducible first | exact HI0.out | apply IsS127.alloc | apply IsS127.drewN | apply IsS127.drew | apply IsS127.set_1 | refine IsS127.far ?_ NB0_252.out _ | refine IsS127.far ?_ NB0_255.out _) | exact HI0.out)) (rk HO_256001) (by decide)) hk (fun _ h => h.2)) (fun _ h => h.1))
          have n1_ := Aside0.mk (KeepBut.blk hk (g' := gb252) (o := .cells #[.int .i64 0, .slice none 0 0] 40 (0, 0)) (bk BK252) NB252_0.out (by simp))
          have n2_ := Aside0.mk (KeepBut.blk hk (g' := gb255) (o := .cells #[.int .i64 x256000_4, u256001] 40 (0, 0)) (bk BK255) NB255_0.out (by simp))
          have n3_ := Aside0.mk (KeepBut.trans (by repeat (first | (with_reducible first | exact HK.out | apply KeepBut.set_ | apply keep_drewN | apply keep_drew | apply keep_alloc | refine keep_far ?_ GW252.out _ | refine keep_far ?_ GW255.out _) | exact HK.out)) hk (.inl rfl))
          have n4_ := Aside0.mk (hb)
          have n5_ := Aside0.mk (hi)
          clear HO_256001
          clear BK252
          clear BK255
          clear HK
          clear HB
          clear HI0
          have HO_256001 := n0_
          have BK252 := n1_
          have BK255 := n2_
          have HK := n3_
          have HB := n4_
          have HI0 := n5_
          clear n0_ n1_ n2_ n3_ n4_ n5_
          (try clear hb)
          (try clear hb2)
          (try clear hk)
          (try clear hi)
          refine hK.out _ _ ⟨(blk_cell BK255.out 0).trans rfl, (blk_cell BK255.out 1).trans rfl⟩ (fun hHeld => ?_)
          clear hK K
          refine norm_ (a' := ?_) ?_ ?_
          rotate_left
          ·show Act.put _ (some 41) _ = _
           simp only [Act.put, List.setIfInBounds_toArray, List.set_cons_zero, List.set_cons_succ, i64_w, i32_w]
           rfl
          refine pure_ (i := 7) (N := some 42) (v := ?_) (a' := ?_) (bz 12 1023) rfl rfl (any_of HT_.out (by kernel_rfl)) (fun _ _ _ h => h) (Or.inl ⟨by rfl, ?_⟩) ?_ ?_
          rotate_left
          ·intro w'
           go_simp
           with_reducible rfl
          rotate_left
          ·simp only [Act.put, List.setIfInBounds_toArray, List.set_cons_zero, List.set_cons_succ, i64_w, i32_w]
           rfl
          refine pure_ (i := 10) (N := some 45) (v := ?_) (a' := ?_) (bz 12 2047) rfl rfl (any_of HT_.out (by kernel_rfl)) (fun _ _ _ h => h) (Or.inl ⟨by rfl, ?_⟩) ?_ ?_
          rotate_left
          ·intro w'
           go_simp
           with_reducible rfl
          rotate_left
          ·simp only [Act.put, List.setIfInBounds_toArray, List.set_cons_zero, List.set_cons_succ, i64_w, i32_w]
           rfl
          refine pure_ (i := 11) (N := some 8) (v := ?_) (a' := ?_) (bz 12 4095) rfl rfl (any_of HT_.out (by kernel_rfl)) (fun _ _ _ h => h) (Or.inl ⟨by rfl, ?_⟩) ?_ ?_
          rotate_left
          ·intro w'
           go_simp
           with_reducible rfl
          rotate_left
          ·simp only [Act.put, List.setIfInBounds_toArray, List.set_cons_zero, List.set_cons_succ, i64_w, i32_w]
           rfl
          refine done_ (done_of HT_.out (by kernel_rfl)) ?_
          try go_wp2
          have n0_ := Aside0.mk (Kd.R_drew HO_256001.out)
          have n1_ := Aside0.mk (blk_drew BK252.out)
          have n2_ := Aside0.mk (blk_drew BK255.out)
          have n3_ := Aside0.mk (IsS127.drew HI0.out)
          have n4_ := Aside0.mk (keep_drew HK.out)
          have n5_ := Aside0.mk (below_drew1 HB.out)
          clear HO_256001
          clear BK252
          clear BK255
          clear HI0
          clear HK
          clear HB
          have HO_256001 := n0_
          have BK252 := n1_
          have BK255 := n2_
          have HI0 := n3_
          have HK := n4_
          have HB := n5_
          clear n0_ n1_ n2_ n3_ n4_ n5_
          refine start_ (n := 12) (S := fun w' => w'.cell? ⟨gb255, 0, none⟩ = some (.int .i64 x256000_4) ∧ w'.cell? ⟨gb255, 1, none⟩ = some (u256001)) (ds := [11]) (bz 12 0) (by kernel_rfl) rfl rfl ⟨(blk_cell BK255.out 0).trans rfl, (blk_cell BK255.out 1).trans rfl⟩ (fun hHeld => ?_); refine with_tabW spec_l20Net.tab9 spec_l20Net.bits9 (fun HT_ HW_ => ?_)
          generalize w37.drew = w38 at HO_256001 BK252 BK255 HI0 HK HB hHeld ⊢
          refine pure_ (i := 0) (N := some 46) (v := ?_) (a' := ?_) (bz 12 1) rfl rfl (any_of HT_.out (by kernel_rfl)) (fun _ _ _ h => h) (Or.inl ⟨by rfl, ?_⟩) ?_ ?_
          rotate_left
          ·intro w'
           go_simp
           with_reducible rfl
          rotate_left
          ·simp only [Act.put, List.setIfInBounds_toArray, List.set_cons_zero, List.set_cons_succ, i64_w, i32_w]
           rfl
          refine pure_ (i := 2) (N := some 48) (v := ?_) (a' := ?_) (bz 12 5) rfl rfl (any_of HT_.out (by kernel_rfl)) (fun _ _ _ h => h) (Or.inl ⟨by rfl, ?_⟩) ?_ ?_
          rotate_left
          ·intro w'
           go_simp
           with_reducible rfl
          rotate_left
          ·simp only [Act.put, List.setIfInBounds_toArray, List.set_cons_zero, List.set_cons_succ, i64_w, i32_w]
           rfl
          refine pure_ (i := 3) (N := some 49) (v := ?_) (a' := ?_) (bz 12 13) rfl rfl (any_of HT_.out (by kernel_rfl)) (fun _ _ _ h => h) (Or.inl ⟨by rfl, ?_⟩) ?_ ?_
          rotate_left
          ·intro w'
           go_simp
           with_reducible rfl
          rotate_left
          ·simp only [Act.put, List.setIfInBounds_toArray, List.set_cons_zero, List.set_cons_succ, i64_w, i32_w]
           rfl
          refine pure_ (i := 4) (N := some 50) (v := ?_) (a' := ?_) (bz 12 29) rfl rfl (any_of HT_.out (by kernel_rfl)) (fun _ _ _ h => h) (Or.inl ⟨by rfl, ?_⟩) ?_ ?_
          rotate_left
          ·intro w'
           go_simp
           with_reducible rfl
          rotate_left
          ·simp only [Act.put, List.setIfInBounds_toArray, List.set_cons_zero, List.set_cons_succ, i64_w, i32_w]
           rfl
          refine take_ (i := 1) (N := some 47) (v := ?_) (a' := ?_) (bz 12 31) rfl rfl (take_ofW HT_.out HW_.out (by kernel_rfl)) (fun _ _ _ h => h) (Or.inl ⟨by rfl, ?_⟩) hHeld ?_ ?_
          rotate_left
          ·rintro w' ⟨s0, s1⟩
           go_simp
           with_reducible rfl
          rotate_left
          ·simp only [Act.put, List.setIfInBounds_toArray, List.set_cons_zero, List.set_cons_succ, i64_w, i32_w]
           rfl
          refine one_ (i := 5) (N := some 51) (bz 12 63) rfl rfl (one_of HT_.out (by kernel_rfl)) (by decide) (fun K hK => ?_)
          refine goes_ Tryd.func60 (by kernel_rfl) rfl #[.pointer (some ⟨g, 0, none⟩), .int .i64 40] (by rfl) rfl rfl (by (try simp only [List.map_toArray, List.map_cons, List.map_nil]); first | done | rfl | (simp only [List.length_drop, List.length_take]; rfl)) ?_
          with_reducible refine (spec_l20Rd_pick.calls kj20 g s0_0 t265 40 t266 t267 w0 _ ?side1 ?side2 A30.out).mono ?_
          (case side1 => repeat (first | (with_reducible first | exact HI0.out | apply IsS127.alloc | apply IsS127.drewN | apply IsS127.drew | apply IsS127.set_1 | refine IsS127.far ?_ NB0_252.out _ | refine IsS127.far ?_ NB0_255.out _) | exact HI0.out))
          (case side2 => repeat (first | (with_reducible first | exact HB.out | apply below_alloc | apply pw_below_drewN | apply below_drew1 | refine below_set ?_ (IsS127.ge HI0.out) | refine below_set ?_ GE252.out | refine below_set ?_ GE255.out) | exact HB.out))
          rintro e w39 ⟨rfl, hi, hb, hk⟩
          refine ⟨_, rfl, ?_⟩
          have n0_ := Aside0.mk (Kd.R_mono (Kd.R_keep (IsS127.apart (show IsS127 w0 _ g s0_0 t265 from by repeat (first | (with_reducible first | exact HI0.out | apply IsS127.alloc | apply IsS127.drewN | apply IsS127.drew | apply IsS127.set_1 | refine IsS127.far ?_ NB0_252.out _ | refine IsS127.far ?_ NB0_255.out _) | exact HI0.out)) (rk HO_256001) (by decide)) hk (fun _ h => h.2)) (fun _ h => h.1))
          have n1_ := Aside0.mk (KeepBut.blk hk (g' := gb252) (o := .cells #[.int .i64 0, .slice none 0 0] 40 (0, 0)) (bk BK252) NB252_0.out (by simp))
          have n2_ := Aside0.mk (KeepBut.blk hk (g' := gb255) (o := .cells #[.int .i64 x256000_4, u256001] 40 (0, 0)) (bk BK255) NB255_0.out (by simp))
          have n3_ := Aside0.mk (KeepBut.trans (by repeat (first | (with_reducible first | exact HK.out | apply KeepBut.set_ | apply keep_drewN | apply keep_drew | apply keep_alloc | refine keep_far ?_ GW252.out _ | refine keep_far ?_ GW255.out _) | exact HK.out)) hk (.inl rfl))
          have n4_ := Aside0.mk (hb)
          have n5_ := Aside0.mk (hi)
          clear HO_256001
          clear BK252
          clear BK255
          clear HK
          clear HB
          clear HI0
          have HO_256001 := n0_
          have BK252 := n1_
          have BK255 := n2_
          have HK := n3_
          have HB := n4_
          have HI0 := n5_
          clear n0_ n1_ n2_ n3_ n4_ n5_
          (try clear hb)
          (try clear hb2)
          (try clear hk)
          (try clear hi)
          refine hK.out _ _ ⟨(blk_cell BK255.out 0).trans rfl, (blk_cell BK255.out 1).trans rfl⟩ (fun hHeld => ?_)
          clear hK K
          refine norm_ (a' := ?_) ?_ ?_
          rotate_left
          ·show Act.put _ (some 51) _ = _
           simp only [Act.put, List.setIfInBounds_toArray, List.set_cons_zero, List.set_cons_succ, i64_w, i32_w]
           rfl
          refine pure_ (i := 6) (N := some 52) (v := ?_) (a' := ?_) (bz 12 127) rfl rfl (any_of HT_.out (by kernel_rfl)) (fun _ _ _ h => h) (Or.inl ⟨by rfl, ?_⟩) ?_ ?_
          rotate_left
          ·intro w'
           go_simp
           with_reducible rfl
          rotate_left
          ·simp only [Act.put, List.setIfInBounds_toArray, List.set_cons_zero, List.set_cons_succ, i64_w, i32_w]
           rfl
          refine pure_ (i := 7) (N := some 53) (v := ?_) (a' := ?_) (bz 12 255) rfl rfl (any_of HT_.out (by kernel_rfl)) (fun _ _ _ h => h) (Or.inl ⟨by rfl, ?_⟩) ?_ ?_
          rotate_left
          ·intro w'
           go_simp
           with_reducible rfl
          rotate_left
          ·simp only [Act.put, List.setIfInBounds_toArray, List.set_cons_zero, List.set_cons_succ, i64_w, i32_w]
           rfl
          refine one_ (i := 8) (N := some 54) (bz 12 511) rfl rfl (one_of HT_.out (by kernel_rfl)) (by decide) (fun K hK => ?_)
          refine value_ (w1 := ?_) (v := ?_) (by rfl) rfl ?_ ?_
          rotate_left 2
          ·go_simp
           constructor
           ·rfl
           ·rfl
          refine hK.out _ _ ⟨(blk_cell (blk_alloc BK255.out _) 0).trans rfl, (blk_cell (blk_alloc BK255.out _) 1).trans rfl⟩ (fun hHeld => ?_)
          clear hK K
          refine norm_ (a' := ?_) ?_ ?_
          rotate_left
          ·show Act.put _ (some 54) _ = _
           simp only [Act.put, List.setIfInBounds_toArray, List.set_cons_zero, List.set_cons_succ, i64_w, i32_w]
           rfl
          refine one_ (i := 9) (N := some 55) (bz 12 1023) rfl rfl (one_of HT_.out (by kernel_rfl)) (by decide) (fun K hK => ?_)
          refine Kd.R_append_step k42 w.heap.size (by rfl) (.tmp 47) (.tmp 54) 38 42 (.agg #[(.int .i64 0), (.int .i64 0), (.int .i64 0)]) 24 rfl Tryd.underlying38 info42 rfl (by decide) (by omega) u256001 x256001_2 (⟨t262, Int.tmod (wrap64 ((wrap64 (t262 + 1)) + t264)) x256000_4, wrap64 (1 + t266)⟩ : S42) [.int .i64 t262, .int .i64 (Int.tmod (wrap64 ((wrap64 (t262 + 1)) + t264)) x256000_4), .int .i64 (wrap64 (1 + t266))] (fun _ => True) (fun _ => False) rfl rfl ?aP (fun _ hk => by first | exact hk.elim | grind) ?aF ?aO (Below.refl _ _) ?aS ?aL ?_
          (case aP => exact k42_mkM _ _ _ (⟨t262, Int.tmod (wrap64 ((wrap64 (t262 + 1)) + t264)) x256000_4, wrap64 (1 + t266)⟩ : S42))
          (case aF => exact (fun _ _ => trivial))
          (case aO => exact (rk HO_256001))
          (case aS => exact (keep_size (w := w) (g := g) (row := none) (by repeat (first | (with_reducible first | exact HK.out | apply KeepBut.set_ | apply keep_drewN | apply keep_drew | apply keep_alloc | refine keep_far ?_ GW252.out _ | refine keep_far ?_ GW255.out _) | exact HK.out))))
          (case aL => have := LMc31.out; omega)
          intro v269 w40 ho hb hg hat
          rw [← Ny268.out] at ho
          have n0_ := Aside0.mk (blk_grown (g := gb252) (o := .cells #[.int .i64 0, .slice none 0 0] 40 (0, 0)) (bk BK252) hg (Kd.R_ne HO_256001.out BK252.out (by decide)))
          have n1_ := Aside0.mk (blk_grown (g := gb255) (o := .cells #[.int .i64 x256000_4, u256001] 40 (0, 0)) (bk BK255) hg (Kd.R_ne HO_256001.out BK255.out (by decide)))
          have n2_ := Aside0.mk (IsS127.grown (by repeat (first | (with_reducible first | exact HI0.out | apply IsS127.alloc | apply IsS127.drewN | apply IsS127.drew | apply IsS127.set_1 | refine IsS127.far ?_ NB0_252.out _ | refine IsS127.far ?_ NB0_255.out _) | exact HI0.out)) hg (IsS127.own_ne HI0.out HO_256001.out (by decide)))
          have n3_ := Aside0.mk (below_weaken (by repeat (first | (with_reducible first | exact HB.out | apply below_alloc | apply pw_below_drewN | apply below_drew1 | refine below_set ?_ (IsS127.ge HI0.out) | refine below_set ?_ GE252.out | refine below_set ?_ GE255.out) | exact HB.out)) HL.out hb)
          have n4_ := Aside0.mk (KeepBut.trans (by repeat (first | (with_reducible first | exact HK.out | apply KeepBut.set_ | apply keep_drewN | apply keep_drew | apply keep_alloc | refine keep_far ?_ GW252.out _ | refine keep_far ?_ GW255.out _) | exact HK.out)) (KeepBut.of_grown hg g) (Kd.R_base2 HO_256001.out))
          have n5_ := Aside0.mk (ho)
          clear BK252
          clear BK255
          clear HI0
          clear HB
          clear HK
          clear HO_256001
          have BK252 := n0_
          have BK255 := n1_
          have HI0 := n2_
          have HB := n3_
          have HK := n4_
          have HO270 := n5_
          clear n0_ n1_ n2_ n3_ n4_ n5_
          clear ho hb hg hat
          obtain ⟨Ao41, co41, eo41⟩ := Kd.R_slice HO270.out
          (first | subst eo41 | (injection eo41 with f1_ f2_ f3_; have f4_ := f1_.symm; have f5_ := f3_.symm; clear f1_ f2_ f3_; subst f4_; subst f5_))
          refine hK.out _ _ ⟨(blk_cell BK255.out 0).trans rfl, (blk_cell BK255.out 1).trans rfl⟩ (fun hHeld => ?_)
          clear hK K
          refine norm_ (a' := ?_) ?_ ?_
          rotate_left
          ·show Act.put _ (some 55) _ = _
           simp only [Act.put, List.setIfInBounds_toArray, List.set_cons_zero, List.set_cons_succ, i64_w, i32_w]
           rfl
          refine pure_ (i := 10) (N := some 56) (v := ?_) (a' := ?_) (bz 12 2047) rfl rfl (any_of HT_.out (by kernel_rfl)) (fun _ _ _ h => h) (Or.inl ⟨by rfl, ?_⟩) ?_ ?_
          rotate_left
          ·intro w'
           go_simp
           with_reducible rfl
          rotate_left
          ·simp only [Act.put, List.setIfInBounds_toArray, List.set_cons_zero, List.set_cons_succ, i64_w, i32_w]
           rfl
          refine last_ (i := 11) (N := none) (bz 12 4095) rfl rfl (one_of HT_.out (by kernel_rfl)) (by decide) (fun K hK => ?_)
          have hs42 : w40.cell? ⟨gb255, 1, none⟩ = some (u256001) := (blk_cell BK255.out 1).trans rfl
          have hfs42 := blk_frozen BK255.out 1
          have hns42_0 := NB252_255.out
          have hms42_0 := NB255_252.out
          refine skip_ (w1 := ?_) (by rfl) rfl ?_ ?_
          rotate_left
          ·go_simp
           rfl
          refine hK.out _ _ ?_
          clear hK K
          refine done_ (done_of HT_.out (by kernel_rfl)) ?_
          try go_wp2
          go_roundg kj20
          case measure => have := HJ4.out; have := HK2.out; have := HJ20.out; omega
          case rel => exact ⟨(wrap64 (x6_2 - 1)), (t267), (y268), (.slice Ao41 y268.length co41), (by first | rfl | (simp; done) | (simp [*]; done)), H', ⟨by have := HJ4.out; have := HK2.out; have := HJ20.out; omega⟩, ⟨by (with_reducible repeat (first | apply Kd.R_alloc | apply Kd.R_drewN | apply Kd.R_drew)); exact Kd.R_mono (Kd.R_far (p := ⟨gb255, 1, none⟩) (Kd.R_types HO270.out BK255.out (by decide)) (fun _ hk => by first | exact hk.2 | grind) (.slice Ao41 y268.length co41)) (fun _ hk => trivial)⟩, ⟨by (with_reducible repeat (first | refine blk_drewN ?_ _ | refine blk_drew ?_ | refine blk_alloc ?_ _)); refine blk_far ?_ NB252_255.out _; (with_reducible repeat (first | refine blk_drewN ?_ _ | refine blk_drew ?_ | refine blk_alloc ?_ _)); exact BK252.out⟩, ⟨by (with_reducible repeat (first | refine blk_drewN ?_ _ | refine blk_drew ?_ | refine blk_alloc ?_ _)); refine blk_put (cs := #[.int .i64 x256000_4, u256001]) ?_ 1 _ rfl; (with_reducible repeat (first | refine blk_drewN ?_ _ | refine blk_drew ?_ | refine blk_alloc ?_ _)); exact BK255.out⟩, ⟨by repeat (first | (with_reducible first | exact HI0.out | apply IsS127.alloc | apply IsS127.drewN | apply IsS127.drew | apply IsS127.set_1 | refine IsS127.far ?_ NB0_252.out _ | refine IsS127.far ?_ NB0_255.out _) | exact HI0.out)⟩, ⟨by repeat (first | (with_reducible first | exact HK.out | apply KeepBut.set_ | apply keep_drewN | apply keep_drew | apply keep_alloc | refine keep_far ?_ GW252.out _ | refine keep_far ?_ GW255.out _) | exact HK.out)⟩, ⟨by repeat (first | (with_reducible first | exact HB.out | apply below_alloc | apply pw_below_drewN | apply below_drew1 | refine below_set ?_ (IsS127.ge HI0.out) | refine below_set ?_ GE252.out | refine below_set ?_ GE255.out) | exact HB.out)⟩⟩
         ·rw [if_neg c31] at H
          exact absurd H (by simp)
       ·replace c26 := Bool.eq_false_iff.mpr c26
        subst c26
        have H1 : ((spec_l20Rd_odd.f kj20 s0_0 x1001_2 a1).bind fun bt271 => (if bt271.1 = true then ((spec_l20Rd_pick.f kj20 s0_0 bt271.2 5).bind fun bt273 => (if bt273.1 = 0 then ((some (([0, (-1), 9] : List Int) : List Int)).bind fun y275 => ((spec_l20Rd_pick.f kj20 s0_0 bt273.2 3).bind fun bt278 => (if 0 ≤ bt278.1 then (if bt278.1 < (y275.length : Int) then (some (rd y275 bt278.1, x256001_2, bt278.2)) else (none)) else (none)))) else (if bt273.1 = 1 then (if x256001_2.length < 5864062014805 then (some (x256000_4, (x256001_2 ++ [(⟨0, x256000_4, 5⟩ : S42)]), bt273.2)) else (none)) else (if bt273.1 = 2 then (if x256001_2.length < 5864062014805 then (some (x256000_4, (x256001_2 ++ [(⟨0, 0, 5⟩ : S42)]), bt273.2)) else (none)) else (if bt273.1 = 3 then ((some (([0, 1000] : List Int) : List Int)).bind fun y287 => ((spec_l20Rd_pick.f kj20 s0_0 bt273.2 2).bind fun bt290 => (if 0 ≤ bt290.1 then (if bt290.1 < (y287.length : Int) then (if x256001_2.length < 5864062014805 then (some (x256000_4, (x256001_2 ++ [(⟨0, 1, rd y287 bt290.1⟩ : S42)]), bt290.2)) else (none)) else (none)) else (none)))) else (if 11 ≤ 11728124029610 then (some (x256000_4, (List.replicate 11 z42), bt273.2)) else (none))))))) else (some (x256000_4, x256001_2, bt271.2)))) = some (r1, r2, r3) := by rw [if_neg (show ¬ (false = true) by decide)] at H; exact H
        clear H
        have H := H1
        clear H1
        replace H := Option.bind_eq_some_iff.mp H
        obtain ⟨⟨t271, t272⟩, A430, H⟩ := H
        replace H : (if t271 = true then ((spec_l20Rd_pick.f kj20 s0_0 t272 5).bind fun bt273 => (if bt273.1 = 0 then ((some (([0, (-1), 9] : List Int) : List Int)).bind fun y275 => ((spec_l20Rd_pick.f kj20 s0_0 bt273.2 3).bind fun bt278 => (if 0 ≤ bt278.1 then (if bt278.1 < (y275.length : Int) then (some (rd y275 bt278.1, x256001_2, bt278.2)) else (none)) else (none)))) else (if bt273.1 = 1 then (if x256001_2.length < 5864062014805 then (some (x256000_4, (x256001_2 ++ [(⟨0, x256000_4, 5⟩ : S42)]), bt273.2)) else (none)) else (if bt273.1 = 2 then (if x256001_2.length < 5864062014805 then (some (x256000_4, (x256001_2 ++ [(⟨0, 0, 5⟩ : S42)]), bt273.2)) else (none)) else (if bt273.1 = 3 then ((some (([0, 1000] : List Int) : List Int)).bind fun y287 => ((spec_l20Rd_pick.f kj20 s0_0 bt273.2 2).bind fun bt290 => (if 0 ≤ bt290.1 then (if bt290.1 < (y287.length : Int) then (if x256001_2.length < 5864062014805 then (some (x256000_4, (x256001_2 ++ [(⟨0, 1, rd y287 bt290.1⟩ : S42)]), bt290.2)) else (none)) else (none)) else (none)))) else (if 11 ≤ 11728124029610 then (some (x256000_4, (List.replicate 11 z42), bt273.2)) else (none))))))) else (some (x256000_4, x256001_2, t272))) = some (r1, r2, r3) := H
        have A43 := Aside0.mk A430
        clear A430
        by_cases c44 : t271 = true
        ·subst c44
         have H1 : ((spec_l20Rd_pick.f kj20 s0_0 t272 5).bind fun bt273 => (if bt273.1 = 0 then ((some (([0, (-1), 9] : List Int) : List Int)).bind fun y275 => ((spec_l20Rd_pick.f kj20 s0_0 bt273.2 3).bind fun bt278 => (if 0 ≤ bt278.1 then (if bt278.1 < (y275.length : Int) then (some (rd y275 bt278.1, x256001_2, bt278.2)) else (none)) else (none)))) else (if bt273.1 = 1 then (if x256001_2.length < 5864062014805 then (some (x256000_4, (x256001_2 ++ [(⟨0, x256000_4, 5⟩ : S42)]), bt273.2)) else (none)) else (if bt273.1 = 2 then (if x256001_2.length < 5864062014805 then (some (x256000_4, (x256001_2 ++ [(⟨0, 0, 5⟩ : S42)]), bt273.2)) else (none)) else (if bt273.1 = 3 then ((some (([0, 1000] : List Int) : List Int)).bind fun y287 => ((spec_l20Rd_pick.f kj20 s0_0 bt273.2 2).bind fun bt290 => (if 0 ≤ bt290.1 then (if bt290.1 < (y287.length : Int) then (if x256001_2.length < 5864062014805 then (some (x256000_4, (x256001_2 ++ [(⟨0, 1, rd y287 bt290.1⟩ : S42)]), bt290.2)) else (none)) else (none)) else (none)))) else (if 11 ≤ 11728124029610 then (some (x256000_4, (List.replicate 11 z42), bt273.2)) else (none))))))) = some (r1, r2, r3) := by rw [if_pos rfl] at H; exact H
         clear H
         have H := H1
         clear H1
         replace H := Option.bind_eq_some_iff.mp H
         obtain ⟨⟨t273, t274⟩, A450, H⟩ := H
         replace H : (if t273 = 0 then ((some (([0, (-1), 9] : List Int) : List Int)).bind fun y275 => ((spec_l20Rd_pick.f kj20 s0_0 t274 3).bind fun bt278 => (if 0 ≤ bt278.1 then (if bt278.1 < (y275.length : Int) then (some (rd y275 bt278.1, x256001_2, bt278.2)) else (none)) else (none)))) else (if t273 = 1 then (if x256001_2.length < 5864062014805 then (some (x256000_4, (x256001_2 ++ [(⟨0, x256000_4, 5⟩ : S42)]), t274)) else (none)) else (if t273 = 2 then (if x256001_2.length < 5864062014805 then (some (x256000_4, (x256001_2 ++ [(⟨0, 0, 5⟩ : S42)]), t274)) else (none)) else (if t273 = 3 then ((some (([0, 1000] : List Int) : List Int)).bind fun y287 => ((spec_l20Rd_pick.f kj20 s0_0 t274 2).bind fun bt290 => (if 0 ≤ bt290.1 then (if bt290.1 < (y287.length : Int) then (if x256001_2.length < 5864062014805 then (some (x256000_4, (x256001_2 ++ [(⟨0, 1, rd y287 bt290.1⟩ : S42)]), bt290.2)) else (none)) else (none)) else (none)))) else (if 11 ≤ 11728124029610 then (some (x256000_4, (List.replicate 11 z42), t274)) else (none)))))) = some (r1, r2, r3) := H
         have A45 := Aside0.mk A450
         clear A450
         by_cases c46 : t273 = 0
         ·rw [if_pos c46] at H
          have c46b0 : (t273 == 0) = true := beq_iff_eq.mpr c46
          have c46b1 : (t273 != 0) = false := bne_eq_false_iff_eq.mpr c46
          clear c46
          obtain ⟨y275, hy275⟩ : ∃ y_ : List Int, y_ = (([0, (-1), 9] : List Int)) := ⟨_, rfl⟩
          replace H : ((spec_l20Rd_pick.f kj20 s0_0 t274 3).bind fun bt278 => (if 0 ≤ bt278.1 then (if bt278.1 < (y275.length : Int) then (some (rd y275 bt278.1, x256001_2, bt278.2)) else (none)) else (none))) = some (r1, r2, r3) := by first | (rw [hy275]; with_reducible exact H) | (have H2_ := (Option.bind_some _ _).symm.trans H; rw [hy275]; with_reducible exact H2_) | (have H2_ := (Option.bind_some _ _).symm.trans H; with_reducible exact H2_) | with_reducible exact H | (rw [hy275]; exact H) | exact H
          have Ny275 := Aside0.mk hy275
          clear hy275
          replace H := Option.bind_eq_some_iff.mp H
          obtain ⟨⟨t278, t279⟩, A470, H⟩ := H
          replace H : (if 0 ≤ t278 then (if t278 < (y275.length : Int) then (some (rd y275 t278, x256001_2, t279)) else (none)) else (none)) = some (r1, r2, r3) := H
          have A47 := Aside0.mk A470
          clear A470
          by_cases c48 : 0 ≤ t278
          ·rw [if_pos c48] at H
           have c48b0 : decide (0 ≤ t278) = true := decide_eq_true c48
           clear c48
           by_cases c49 : t278 < (y275.length : Int)
           ·rw [if_pos c49] at H
            have c49b0 : decide (t278 < (y275.length : Int)) = true := decide_eq_true c49
            clear c49
            simp only [Option.some.injEq, Prod.mk.injEq] at H
            obtain ⟨rfl, rfl, rfl⟩ := H
            have TK0_ := Aside0.mk trivial; have TK1_ := Aside0.mk trivial; have TK2_ := Aside0.mk trivial; have TK3_ := Aside0.mk trivial
            go_wp2_with (first | (clear TK0_; (with_reducible refine gate_callee (f := 50) rfl ?_); refine goesL_ (some 59) rfl rfl Tryd.func50 (by kernel_rfl) rfl #[.pointer (some ⟨g, 0, none⟩), .int .i64 a1] rfl (by (try simp only [List.map_toArray, List.map_cons, List.map_nil]); first | done | rfl | (simp only [List.length_drop, List.length_take]; rfl)) ?_; (with_reducible refine (spec_l20Rd_odd.calls kj20 g s0_0 x1001_2 a1 true t272 w0 _ ?side1 ?side2 A43.out).mono ?_); (case side1 => repeat (first | (with_reducible first | exact HI0.out | apply IsS127.alloc | apply IsS127.drewN | apply IsS127.drew | apply IsS127.set_1 | refine IsS127.far ?_ NB0_252.out _ | refine IsS127.far ?_ NB0_255.out _) | exact HI0.out)); (case side2 => repeat (first | (with_reducible first | exact HB.out | apply below_alloc | apply pw_below_drewN | apply below_drew1 | refine below_set ?_ (IsS127.ge HI0.out) | refine below_set ?_ GE252.out | refine below_set ?_ GE255.out) | exact HB.out)); rintro e w50 ⟨rfl, hi, hb, hk⟩; refine ⟨_, rfl, ?_⟩; have n0_ := Aside0.mk (Kd.R_mono (Kd.R_keep (IsS127.apart (show IsS127 w0 _ g s0_0 x1001_2 from by repeat (first | (with_reducible first | exact HI0.out | apply IsS127.alloc | apply IsS127.drewN | apply IsS127.drew | apply IsS127.set_1 | refine IsS127.far ?_ NB0_252.out _ | refine IsS127.far ?_ NB0_255.out _) | exact HI0.out)) (rk HO_256001) (by decide)) hk (fun _ h => h.2)) (fun _ h => h.1)); have n1_ := Aside0.mk (KeepBut.blk hk (g' := gb252) (o := .cells #[.int .i64 0, .slice none 0 0] 40 (0, 0)) (bk BK252) NB252_0.out (by simp)); have n2_ := Aside0.mk (KeepBut.blk hk (g' := gb255) (o := .cells #[.int .i64 x256000_4, u256001] 40 (0, 0)) (bk BK255) NB255_0.out (by simp)); have n3_ := Aside0.mk (KeepBut.trans (by repeat (first | (with_reducible first | exact HK.out | apply KeepBut.set_ | apply keep_drewN | apply keep_drew | apply keep_alloc | refine keep_far ?_ GW252.out _ | refine keep_far ?_ GW255.out _) | exact HK.out)) hk (.inl rfl)); have n4_ := Aside0.mk (hb); have n5_ := Aside0.mk (hi); clear HO_256001 BK252 BK255 HK HB HI0; have HO_256001 := n0_; have BK252 := n1_; have BK255 := n2_; have HK := n3_; have HB := n4_; have HI0 := n5_; clear n0_ n1_ n2_ n3_ n4_ n5_; (try clear hb); (try clear hb2); (try clear hk); (try clear hi)) | (clear TK1_; (with_reducible refine gate_callee (f := 60) rfl ?_); refine goesL_ (some 61) rfl rfl Tryd.func60 (by kernel_rfl) rfl #[.pointer (some ⟨g, 0, none⟩), .int .i64 5] rfl (by (try simp only [List.map_toArray, List.map_cons, List.map_nil]); first | done | rfl | (simp only [List.length_drop, List.length_take]; rfl)) ?_; (with_reducible refine (spec_l20Rd_pick.calls kj20 g s0_0 t272 5 t273 t274 w0 _ ?side1 ?side2 A45.out).mono ?_); (case side1 => repeat (first | (with_reducible first | exact HI0.out | apply IsS127.alloc | apply IsS127.drewN | apply IsS127.drew | apply IsS127.set_1 | refine IsS127.far ?_ NB0_252.out _ | refine IsS127.far ?_ NB0_255.out _) | exact HI0.out)); (case side2 => repeat (first | (with_reducible first | exact HB.out | apply below_alloc | apply pw_below_drewN | apply below_drew1 | refine below_set ?_ (IsS127.ge HI0.out) | refine below_set ?_ GE252.out | refine below_set ?_ GE255.out) | exact HB.out)); rintro e w51 ⟨rfl, hi, hb, hk⟩; refine ⟨_, rfl, ?_⟩; have n0_ := Aside0.mk (Kd.R_mono (Kd.R_keep (IsS127.apart (show IsS127 w0 _ g s0_0 t272 from by repeat (first | (with_reducible first | exact HI0.out | apply IsS127.alloc | apply IsS127.drewN | apply IsS127.drew | apply IsS127.set_1 | refine IsS127.far ?_ NB0_252.out _ | refine IsS127.far ?_ NB0_255.out _) | exact HI0.out)) (rk HO_256001) (by decide)) hk (fun _ h => h.2)) (fun _ h => h.1)); have n1_ := Aside0.mk (KeepBut.blk hk (g' := gb252) (o := .cells #[.int .i64 0, .slice none 0 0] 40 (0, 0)) (bk BK252) NB252_0.out (by simp)); have n2_ := Aside0.mk (KeepBut.blk hk (g' := gb255) (o := .cells #[.int .i64 x256000_4, u256001] 40 (0, 0)) (bk BK255) NB255_0.out (by simp)); have n3_ := Aside0.mk (KeepBut.trans (by repeat (first | (with_reducible first | exact HK.out | apply KeepBut.set_ | apply keep_drewN | apply keep_drew | apply keep_alloc | refine keep_far ?_ GW252.out _ | refine keep_far ?_ GW255.out _) | exact HK.out)) hk (.inl rfl)); have n4_ := Aside0.mk (hb); have n5_ := Aside0.mk (hi); clear HO_256001 BK252 BK255 HK HB HI0; have HO_256001 := n0_; have BK252 := n1_; have BK255 := n2_; have HK := n3_; have HB := n4_; have HI0 := n5_; clear n0_ n1_ n2_ n3_ n4_ n5_; (try clear hb); (try clear hb2); (try clear hk); (try clear hi)) | (clear TK2_; (with_reducible refine gate_dst (N := 66) rfl ?_); refine Kd.R_lit (Kd.int .i64) _ 3 ?hg (N := 66) ?hd (xs := ([0, (-1), 9] : List Int)) (inner := [.int .i64 0, .int .i64 (-1), .int .i64 9]) (ok := fun _ => True) (okp := fun _ => True) ?hr ?hp (fun _ hk => by first | exact hk | grind) trivial (Below.refl _ _) (Nat.le_refl _) (by simp) ?_; (case hd => rfl); (case hg => rfl); (case hr => first | (go_simp; done) | (go_simp; rfl)); (case hp => exact (Reps.one (show Kd.M (Kd.int .i64) _ _ _ 0 [.int .i64 0] from rfl) (Reps.one (show Kd.M (Kd.int .i64) _ _ _ (-1) [.int .i64 (-1)] from rfl) (Reps.one (show Kd.M (Kd.int .i64) _ _ _ 9 [.int .i64 9] from rfl) (Reps.none _ _))))); intro v276 w52 ho53 hb hg_ hnew_; clear hg_ hnew_; (first | rw [← Ny275.out] at ho53 | (simp only [Int.reduceToNat] at ho53; rw [← Ny275.out] at ho53)); have n0_ := rB HO_256001 hb; have n1_ := Aside0.mk (Kd.R_lower ho53 (keep_size (w := w) (g := g) (row := none) (by repeat (first | (with_reducible first | exact HK.out | apply KeepBut.set_ | apply keep_drewN | apply keep_drew | apply keep_alloc | refine keep_far ?_ GW252.out _ | refine keep_far ?_ GW255.out _) | exact HK.out)))); have n2_ := bkB BK252 hb; have n3_ := bkB BK255 hb; have n4_ := Aside0.mk (IsS127.below (by repeat (first | (with_reducible first | exact HI0.out | apply IsS127.alloc | apply IsS127.drewN | apply IsS127.drew | apply IsS127.set_1 | refine IsS127.far ?_ NB0_252.out _ | refine IsS127.far ?_ NB0_255.out _) | exact HI0.out)) hb); have n5_ := Aside0.mk (KeepBut.trans (by repeat (first | (with_reducible first | exact HK.out | apply KeepBut.set_ | apply keep_drewN | apply keep_drew | apply keep_alloc | refine keep_far ?_ GW252.out _ | refine keep_far ?_ GW255.out _) | exact HK.out)) (KeepBut.of_below hb g none) (.inl rfl)); have n6_ := Aside0.mk (below_step (by repeat (first | (with_reducible first | exact HB.out | apply below_alloc | apply pw_below_drewN | apply below_drew1 | refine below_set ?_ (IsS127.ge HI0.out) | refine below_set ?_ GE252.out | refine below_set ?_ GE255.out) | exact HB.out)) hb); clear HO_256001 BK252 BK255 HI0 HK HB; have HO_256001 := n0_; have HO277 := n1_; have BK252 := n2_; have BK255 := n3_; have HI0 := n4_; have HK := n5_; have HB := n6_; clear n0_ n1_ n2_ n3_ n4_ n5_ n6_; clear hb ho53) | (clear TK3_; (with_reducible refine gate_callee (f := 60) rfl ?_); refine goesL_ (some 68) rfl rfl Tryd.func60 (by kernel_rfl) rfl #[.pointer (some ⟨g, 0, none⟩), .int .i64 3] rfl (by (try simp only [List.map_toArray, List.map_cons, List.map_nil]); first | done | rfl | (simp only [List.length_drop, List.length_take]; rfl)) ?_; (with_reducible refine (spec_l20Rd_pick.calls kj20 g s0_0 t274 3 t278 t279 w0 _ ?side1 ?side2 A47.out).mono ?_); (case side1 => repeat (first | (with_reducible first | exact HI0.out | apply IsS127.alloc | apply IsS127.drewN | apply IsS127.drew | apply IsS127.set_1 | refine IsS127.far ?_ NB0_252.out _ | refine IsS127.far ?_ NB0_255.out _) | exact HI0.out)); (case side2 => repeat (first | (with_reducible first | exact HB.out | apply below_alloc | apply pw_below_drewN | apply below_drew1 | refine below_set ?_ (IsS127.ge HI0.out) | refine below_set ?_ GE252.out | refine below_set ?_ GE255.out) | exact HB.out)); rintro e w54 ⟨rfl, hi, hb, hk⟩; refine ⟨_, rfl, ?_⟩; have n0_ := Aside0.mk (Kd.R_mono (Kd.R_keep (IsS127.apart (show IsS127 w0 _ g s0_0 t274 from by repeat (first | (with_reducible first | exact HI0.out | apply IsS127.alloc | apply IsS127.drewN | apply IsS127.drew | apply IsS127.set_1 | refine IsS127.far ?_ NB0_252.out _ | refine IsS127.far ?_ NB0_255.out _) | exact HI0.out)) (rk HO_256001) (by decide)) hk (fun _ h => h.2)) (fun _ h => h.1)); have n1_ := Aside0.mk (KeepBut.blk hk (g' := gb252) (o := .cells #[.int .i64 0, .slice none 0 0] 40 (0, 0)) (bk BK252) NB252_0.out (by simp)); have n2_ := Aside0.mk (KeepBut.blk hk (g' := gb255) (o := .cells #[.int .i64 x256000_4, u256001] 40 (0, 0)) (bk BK255) NB255_0.out (by simp)); have n3_ := Aside0.mk (Kd.R_mono (Kd.R_keep (IsS127.apart (show IsS127 w0 _ g s0_0 t274 from by repeat (first | (with_reducible first | exact HI0.out | apply IsS127.alloc | apply IsS127.drewN | apply IsS127.drew | apply IsS127.set_1 | refine IsS127.far ?_ NB0_252.out _ | refine IsS127.far ?_ NB0_255.out _) | exact HI0.out)) (rk HO277) (by decide)) hk (fun _ h => h.2)) (fun _ h => h.1)); have n4_ := Aside0.mk (KeepBut.trans (by repeat (first | (with_reducible first | exact HK.out | apply KeepBut.set_ | apply keep_drewN | apply keep_drew | apply keep_alloc | refine keep_far ?_ GW252.out _ | refine keep_far ?_ GW255.out _) | exact HK.out)) hk (.inl rfl)); have n5_ := Aside0.mk (hb); have n6_ := Aside0.mk (hi); clear HO_256001 BK252 BK255 HO277 HK HB HI0; have HO_256001 := n0_; have BK252 := n1_; have BK255 := n2_; have HO277 := n3_; have HK := n4_; have HB := n5_; have HI0 := n6_; clear n0_ n1_ n2_ n3_ n4_ n5_ n6_; (try clear hb); (try clear hb2); (try clear hk); (try clear hi); obtain ⟨Ao55, co55, eo55⟩ := Kd.R_slice HO277.out; subst eo55; have p280 : 0 ≤ (t278 : Int) := of_decide_eq_true (by first | (with_reducible assumption) | assumption); have q280 : t278 < (y275.length : Int) := of_decide_eq_true (by first | (with_reducible assumption) | assumption); obtain ⟨ad280, e280, hx280_0⟩ := Kd.at_int (Kd.R_reads' HO277.out).2.2 t278 p280 q280; cases e280; replace p280 := eq_true p280; replace q280 := eq_true q280; have hnb56 := NB255_252.out; have hnc56 := NB252_255.out; have hnb57 := NB255_0.out; have hnc57 := NB0_255.out; have hcz58_0 : w54.cell? ⟨gb255, 0, none⟩ = some (.int .i64 x256000_4) := (blk_cell BK255.out 0).trans rfl; have hcz58_1 : w54.cell? ⟨gb255, 1, none⟩ = some (u256001) := (blk_cell BK255.out 1).trans rfl; have hfz58_0 := blk_frozen BK255.out 0; have hfz58_1 := blk_frozen BK255.out 1; have hnb59 := NB252_0.out; have hnc59 := NB0_252.out; have hcz60_0 : w54.cell? ⟨gb252, 0, none⟩ = some (.int .i64 0) := (blk_cell BK252.out 0).trans rfl; have hcz60_1 : w54.cell? ⟨gb252, 1, none⟩ = some (.slice none 0 0) := (blk_cell BK252.out 1).trans rfl; have hfz60_0 := blk_frozen BK252.out 0; have hfz60_1 := blk_frozen BK252.out 1; obtain ⟨Ao61, co61, eo61⟩ := Kd.R_slice HO_256001.out; subst eo61))
            refine bodyPost_ret (results_cell_row rfl _ _ gb252 40 #[.int .i64 (rd y275 t278), .slice Ao61 x256001_2.length co61] (0, 0) _ rfl (by (with_reducible repeat (first | refine blk_drewN ?_ _ | refine blk_drew ?_ | refine blk_alloc ?_ _)); refine blk_put (cs := #[.int .i64 (rd y275 t278), .slice none 0 0]) ?_ 1 _ rfl; (with_reducible repeat (first | refine blk_drewN ?_ _ | refine blk_drew ?_ | refine blk_alloc ?_ _)); refine blk_put (cs := #[.int .i64 0, .slice none 0 0]) ?_ 0 _ rfl; (with_reducible repeat (first | refine blk_drewN ?_ _ | refine blk_drew ?_ | refine blk_alloc ?_ _)); refine blk_far ?_ NB252_255.out _; (with_reducible repeat (first | refine blk_drewN ?_ _ | refine blk_drew ?_ | refine blk_alloc ?_ _)); exact BK252.out) Tryd.underlying40 rfl (by kernel_rfl)) rfl ?_
            exact ⟨_, by first | rfl | (simp [errW_none, errW_some] <;> rfl) | (simp [*, errW_none, errW_some] <;> rfl), by (with_reducible repeat (first | apply Kd.R_alloc | apply Kd.R_drewN | apply Kd.R_drew)); exact Kd.R_mono (Kd.R_far (p := ⟨gb252, 1, none⟩) (Kd.R_far (p := ⟨gb252, 0, none⟩) (Kd.R_far (p := ⟨gb255, 0, none⟩) (Kd.R_types (Kd.R_types HO_256001.out BK255.out (by decide)) BK252.out (by decide)) (fun _ hk => by first | exact hk.1.2 | grind) (.int .i64 (rd y275 t278))) (fun _ hk => by first | exact hk.2 | grind) (.int .i64 (rd y275 t278))) (fun _ hk => by first | exact hk.2 | grind) (.slice Ao61 x256001_2.length co61)) (fun _ hk => trivial), by repeat (first | (with_reducible first | exact HI0.out | apply IsS127.alloc | apply IsS127.drewN | apply IsS127.drew | apply IsS127.set_1 | refine IsS127.far ?_ NB0_252.out _ | refine IsS127.far ?_ NB0_255.out _) | exact HI0.out), by repeat (first | (with_reducible first | exact HB.out | apply below_alloc | apply pw_below_drewN | apply below_drew1 | refine below_set ?_ (IsS127.ge HI0.out) | refine below_set ?_ GE252.out | refine below_set ?_ GE255.out) | exact HB.out), by repeat (first | (with_reducible first | exact HK.out | apply KeepBut.set_ | apply keep_drewN | apply keep_drew | apply keep_alloc | refine keep_far ?_ GW252.out _ | refine keep_far ?_ GW255.out _) | exact HK.out)⟩
           ·rw [if_neg c49] at H
            exact absurd H (by simp)
          ·rw [if_neg c48] at H
           exact absurd H (by simp)
         ·rw [if_neg c46] at H
          have c46b0 : (t273 == 0) = false := beq_eq_false_iff_ne.mpr c46
          have c46b1 : (t273 != 0) = true := bne_iff_ne.mpr c46
          by_cases c62 : t273 = 1
          ·rw [if_pos c62] at H
           have c62b0 : (t273 == 1) = true := beq_iff_eq.mpr c62
           have c62b1 : (t273 != 1) = false := bne_eq_false_iff_eq.mpr c62
           clear c62
           by_cases c63 : x256001_2.length < 5864062014805
           ·rw [if_pos c63] at H
            have LMc63 := Aside0.mk c63
            clear c63
            obtain ⟨y281, hy281⟩ : ∃ y_ : List (S42), y_ = (x256001_2 ++ [(⟨0, x256000_4, 5⟩ : S42)]) := ⟨_, rfl⟩
            replace H : (some (x256000_4, y281, t274)) = some (r1, r2, r3) := by first | (rw [hy281]; with_reducible exact H) | (have H2_ := (Option.bind_some _ _).symm.trans H; rw [hy281]; with_reducible exact H2_) | (have H2_ := (Option.bind_some _ _).symm.trans H; with_reducible exact H2_) | with_reducible exact H | (rw [hy281]; exact H) | exact H
            have Ny281 := Aside0.mk hy281
            clear hy281
            simp only [Option.some.injEq, Prod.mk.injEq] at H
            obtain ⟨rfl, rfl, rfl⟩ := H
            have TK0_ := Aside0.mk trivial; have TK1_ := Aside0.mk trivial; have TK2_ := Aside0.mk trivial
            go_wp2_with (first | (clear TK0_; (with_reducible refine gate_callee (f := 50) rfl ?_); refine goesL_ (some 59) rfl rfl Tryd.func50 (by kernel_rfl) rfl #[.pointer (some ⟨g, 0, none⟩), .int .i64 a1] rfl (by (try simp only [List.map_toArray, List.map_cons, List.map_nil]); first | done | rfl | (simp only [List.length_drop, List.length_take]; rfl)) ?_; (with_reducible refine (spec_l20Rd_odd.calls kj20 g s0_0 x1001_2 a1 true t272 w0 _ ?side1 ?side2 A43.out).mono ?_); (case side1 => repeat (first | (with_reducible first | exact HI0.out | apply IsS127.alloc | apply IsS127.drewN | apply IsS127.drew | apply IsS127.set_1 | refine IsS127.far ?_ NB0_252.out _ | refine IsS127.far ?_ NB0_255.out _) | exact HI0.out)); (case side2 => repeat (first | (with_reducible first | exact HB.out | apply below_alloc | apply pw_below_drewN | apply below_drew1 | refine below_set ?_ (IsS127.ge HI0.out) | refine below_set ?_ GE252.out | refine below_set ?_ GE255.out) | exact HB.out)); rintro e w64 ⟨rfl, hi, hb, hk⟩; refine ⟨_, rfl, ?_⟩; have n0_ := Aside0.mk (Kd.R_mono (Kd.R_keep (IsS127.apart (show IsS127 w0 _ g s0_0 x1001_2 from by repeat (first | (with_reducible first | exact HI0.out | apply IsS127.alloc | apply IsS127.drewN | apply IsS127.drew | apply IsS127.set_1 | refine IsS127.far ?_ NB0_252.out _ | refine IsS127.far ?_ NB0_255.out _) | exact HI0.out)) (rk HO_256001) (by decide)) hk (fun _ h => h.2)) (fun _ h => h.1)); have n1_ := Aside0.mk (KeepBut.blk hk (g' := gb252) (o := .cells #[.int .i64 0, .slice none 0 0] 40 (0, 0)) (bk BK252) NB252_0.out (by simp)); have n2_ := Aside0.mk (KeepBut.blk hk (g' := gb255) (o := .cells #[.int .i64 x256000_4, u256001] 40 (0, 0)) (bk BK255) NB255_0.out (by simp)); have n3_ := Aside0.mk (KeepBut.trans (by repeat (first | (with_reducible first | exact HK.out | apply KeepBut.set_ | apply keep_drewN | apply keep_drew | apply keep_alloc | refine keep_far ?_ GW252.out _ | refine keep_far ?_ GW255.out _) | exact HK.out)) hk (.inl rfl)); have n4_ := Aside0.mk (hb); have n5_ := Aside0.mk (hi); clear HO_256001 BK252 BK255 HK HB HI0; have HO_256001 := n0_; have BK252 := n1_; have BK255 := n2_; have HK := n3_; have HB := n4_; have HI0 := n5_; clear n0_ n1_ n2_ n3_ n4_ n5_; (try clear hb); (try clear hb2); (try clear hk); (try clear hi)) | (clear TK1_; (with_reducible refine gate_callee (f := 60) rfl ?_); refine goesL_ (some 61) rfl rfl Tryd.func60 (by kernel_rfl) rfl #[.pointer (some ⟨g, 0, none⟩), .int .i64 5] rfl (by (try simp only [List.map_toArray, List.map_cons, List.map_nil]); first | done | rfl | (simp only [List.length_drop, List.length_take]; rfl)) ?_; (with_reducible refine (spec_l20Rd_pick.calls kj20 g s0_0 t272 5 t273 t274 w0 _ ?side1 ?side2 A45.out).mono ?_); (case side1 => repeat (first | (with_reducible first | exact HI0.out | apply IsS127.alloc | apply IsS127.drewN | apply IsS127.drew | apply IsS127.set_1 | refine IsS127.far ?_ NB0_252.out _ | refine IsS127.far ?_ NB0_255.out _) | exact HI0.out)); (case side2 => repeat (first | (with_reducible first | exact HB.out | apply below_alloc | apply pw_below_drewN | apply below_drew1 | refine below_set ?_ (IsS127.ge HI0.out) | refine below_set ?_ GE252.out | refine below_set ?_ GE255.out) | exact HB.out)); rintro e w65 ⟨rfl, hi, hb, hk⟩; refine ⟨_, rfl, ?_⟩; have n0_ := Aside0.mk (Kd.R_mono (Kd.R_keep (IsS127.apart (show IsS127 w0 _ g s0_0 t272 from by repeat (first | (with_reducible first | exact HI0.out | apply IsS127.alloc | apply IsS127.drewN | apply IsS127.drew | apply IsS127.set_1 | refine IsS127.far ?_ NB0_252.out _ | refine IsS127.far ?_ NB0_255.out _) | exact HI0.out)) (rk HO_256001) (by decide)) hk (fun _ h => h.2)) (fun _ h => h.1)); have n1_ := Aside0.mk (KeepBut.blk hk (g' := gb252) (o := .cells #[.int .i64 0, .slice none 0 0] 40 (0, 0)) (bk BK252) NB252_0.out (by simp)); have n2_ := Aside0.mk (KeepBut.blk hk (g' := gb255) (o := .cells #[.int .i64 x256000_4, u256001] 40 (0, 0)) (bk BK255) NB255_0.out (by simp)); have n3_ := Aside0.mk (KeepBut.trans (by repeat (first | (with_reducible first | exact HK.out | apply KeepBut.set_ | apply keep_drewN | apply keep_drew | apply keep_alloc | refine keep_far ?_ GW252.out _ | refine keep_far ?_ GW255.out _) | exact HK.out)) hk (.inl rfl)); have n4_ := Aside0.mk (hb); have n5_ := Aside0.mk (hi); clear HO_256001 BK252 BK255 HK HB HI0; have HO_256001 := n0_; have BK252 := n1_; have BK255 := n2_; have HK := n3_; have HB := n4_; have HI0 := n5_; clear n0_ n1_ n2_ n3_ n4_ n5_; (try clear hb); (try clear hb2); (try clear hk); (try clear hi); have hnb66 := NB255_252.out; have hnc66 := NB252_255.out; have hnb67 := NB255_0.out; have hnc67 := NB0_255.out; have hcz68_0 : w65.cell? ⟨gb255, 0, none⟩ = some (.int .i64 x256000_4) := (blk_cell BK255.out 0).trans rfl; have hcz68_1 : w65.cell? ⟨gb255, 1, none⟩ = some (u256001) := (blk_cell BK255.out 1).trans rfl; have hfz68_0 := blk_frozen BK255.out 0; have hfz68_1 := blk_frozen BK255.out 1) | (clear TK2_; (with_reducible refine gate_builtin (b := .append) (xs := #[.tmp 75, .tmp 79]) rfl ?_); at_builtin; refine Kd.R_append k42 w.heap.size rfl (.tmp 75) (.tmp 79) 38 42 (.agg #[(.int .i64 0), (.int .i64 0), (.int .i64 0)]) 24 rfl Tryd.underlying38 info42 rfl (by decide) (by omega) u256001 x256001_2 (⟨0, x256000_4, 5⟩ : S42) [.int .i64 0, .int .i64 x256000_4, .int .i64 5] (fun _ => True) (fun _ => False) rfl rfl ?aP (fun _ hk => by first | exact hk.elim | grind) ?aF ?aO (Below.refl _ _) ?aS ?aL ?_; (case aP => exact k42_mkM _ _ _ (⟨0, x256000_4, 5⟩ : S42)); (case aF => exact (fun _ _ => trivial)); (case aO => exact (rk HO_256001)); (case aS => exact (keep_size (w := w) (g := g) (row := none) (by repeat (first | (with_reducible first | exact HK.out | apply KeepBut.set_ | apply keep_drewN | apply keep_drew | apply keep_alloc | refine keep_far ?_ GW252.out _ | refine keep_far ?_ GW255.out _) | exact HK.out)))); (case aL => have := LMc63.out; omega); intro v282 w69 ho hb hg hat; rw [← Ny281.out] at ho; have n0_ := Aside0.mk (blk_grown (g := gb252) (o := .cells #[.int .i64 0, .slice none 0 0] 40 (0, 0)) (bk BK252) hg (Kd.R_ne HO_256001.out BK252.out (by decide))); have n1_ := Aside0.mk (blk_grown (g := gb255) (o := .cells #[.int .i64 x256000_4, u256001] 40 (0, 0)) (bk BK255) hg (Kd.R_ne HO_256001.out BK255.out (by decide))); have n2_ := Aside0.mk (IsS127.grown (by repeat (first | (with_reducible first | exact HI0.out | apply IsS127.alloc | apply IsS127.drewN | apply IsS127.drew | apply IsS127.set_1 | refine IsS127.far ?_ NB0_252.out _ | refine IsS127.far ?_ NB0_255.out _) | exact HI0.out)) hg (IsS127.own_ne HI0.out HO_256001.out (by decide))); have n3_ := Aside0.mk (below_weaken (by repeat (first | (with_reducible first | exact HB.out | apply below_alloc | apply pw_below_drewN | apply below_drew1 | refine below_set ?_ (IsS127.ge HI0.out) | refine below_set ?_ GE252.out | refine below_set ?_ GE255.out) | exact HB.out)) HL.out hb); have n4_ := Aside0.mk (KeepBut.trans (by repeat (first | (with_reducible first | exact HK.out | apply KeepBut.set_ | apply keep_drewN | apply keep_drew | apply keep_alloc | refine keep_far ?_ GW252.out _ | refine keep_far ?_ GW255.out _) | exact HK.out)) (KeepBut.of_grown hg g) (Kd.R_base2 HO_256001.out)); have n5_ := Aside0.mk (ho); clear BK252 BK255 HI0 HB HK HO_256001; have BK252 := n0_; have BK255 := n1_; have HI0 := n2_; have HB := n3_; have HK := n4_; have HO283 := n5_; clear n0_ n1_ n2_ n3_ n4_ n5_; clear ho hb hg hat; obtain ⟨Ao70, co70, eo70⟩ := Kd.R_slice HO283.out; subst eo70; have hcz71_0 : w69.cell? ⟨gb255, 0, none⟩ = some (.int .i64 x256000_4) := (blk_cell BK255.out 0).trans rfl; have hcz71_1 : w69.cell? ⟨gb255, 1, none⟩ = some (u256001) := (blk_cell BK255.out 1).trans rfl; have hfz71_0 := blk_frozen BK255.out 0; have hfz71_1 := blk_frozen BK255.out 1; have hnb72 := NB252_0.out; have hnc72 := NB0_252.out; have hcz73_0 : w69.cell? ⟨gb252, 0, none⟩ = some (.int .i64 0) := (blk_cell BK252.out 0).trans rfl; have hcz73_1 : w69.cell? ⟨gb252, 1, none⟩ = some (.slice none 0 0) := (blk_cell BK252.out 1).trans rfl; have hfz73_0 := blk_frozen BK252.out 0; have hfz73_1 := blk_frozen BK252.out 1))
            refine bodyPost_ret (results_cell_row rfl _ _ gb252 40 #[.int .i64 x256000_4, .slice Ao70 y281.length co70] (0, 0) _ rfl (by (with_reducible repeat (first | refine blk_drewN ?_ _ | refine blk_drew ?_ | refine blk_alloc ?_ _)); refine blk_put (cs := #[.int .i64 x256000_4, .slice none 0 0]) ?_ 1 _ rfl; (with_reducible repeat (first | refine blk_drewN ?_ _ | refine blk_drew ?_ | refine blk_alloc ?_ _)); refine blk_put (cs := #[.int .i64 0, .slice none 0 0]) ?_ 0 _ rfl; (with_reducible repeat (first | refine blk_drewN ?_ _ | refine blk_drew ?_ | refine blk_alloc ?_ _)); refine blk_far ?_ NB252_255.out _; (with_reducible repeat (first | refine blk_drewN ?_ _ | refine blk_drew ?_ | refine blk_alloc ?_ _)); exact BK252.out) Tryd.underlying40 rfl (by kernel_rfl)) rfl ?_
            exact ⟨_, by first | rfl | (simp [errW_none, errW_some] <;> rfl) | (simp [*, errW_none, errW_some] <;> rfl), by (with_reducible repeat (first | apply Kd.R_alloc | apply Kd.R_drewN | apply Kd.R_drew)); exact Kd.R_mono (Kd.R_far (p := ⟨gb252, 1, none⟩) (Kd.R_far (p := ⟨gb252, 0, none⟩) (Kd.R_far (p := ⟨gb255, 1, none⟩) (Kd.R_types (Kd.R_types HO283.out BK255.out (by decide)) BK252.out (by decide)) (fun _ hk => by first | exact hk.1.2 | grind) (.slice Ao70 y281.length co70)) (fun _ hk => by first | exact hk.2 | grind) (.int .i64 x256000_4)) (fun _ hk => by first | exact hk.2 | grind) (.slice Ao70 y281.length co70)) (fun _ hk => trivial), by repeat (first | (with_reducible first | exact HI0.out | apply IsS127.alloc | apply IsS127.drewN | apply IsS127.drew | apply IsS127.set_1 | refine IsS127.far ?_ NB0_252.out _ | refine IsS127.far ?_ NB0_255.out _) | exact HI0.out), by repeat (first | (with_reducible first | exact HB.out | apply below_alloc | apply pw_below_drewN | apply below_drew1 | refine below_set ?_ (IsS127.ge HI0.out) | refine below_set ?_ GE252.out | refine below_set ?_ GE255.out) | exact HB.out), by repeat (first | (with_reducible first | exact HK.out | apply KeepBut.set_ | apply keep_drewN | apply keep_drew | apply keep_alloc | refine keep_far ?_ GW252.out _ | refine keep_far ?_ GW255.out _) | exact HK.out)⟩
           ·rw [if_neg c63] at H
            exact absurd H (by simp)
          ·rw [if_neg c62] at H
           have c62b0 : (t273 == 1) = false := beq_eq_false_iff_ne.mpr c62
           have c62b1 : (t273 != 1) = true := bne_iff_ne.mpr c62
           by_cases c74 : t273 = 2
           ·rw [if_pos c74] at H
            have c74b0 : (t273 == 2) = true := beq_iff_eq.mpr c74
            have c74b1 : (t273 != 2) = false := bne_eq_false_iff_eq.mpr c74
            clear c74
            by_cases c75 : x256001_2.length < 5864062014805
            ·rw [if_pos c75] at H
             have LMc75 := Aside0.mk c75
             clear c75
             obtain ⟨y284, hy284⟩ : ∃ y_ : List (S42), y_ = (x256001_2 ++ [(⟨0, 0, 5⟩ : S42)]) := ⟨_, rfl⟩
             replace H : (some (x256000_4, y284, t274)) = some (r1, r2, r3) := by first | (rw [hy284]; with_reducible exact H) | (have H2_ := (Option.bind_some _ _).symm.trans H; rw [hy284]; with_reducible exact H2_) | (have H2_ := (Option.bind_some _ _).symm.trans H; with_reducible exact H2_) | with_reducible exact H | (rw [hy284]; exact H) | exact H
             have Ny284 := Aside0.mk hy284
             clear hy284
             simp only [Option.some.injEq, Prod.mk.injEq] at H
             obtain ⟨rfl, rfl, rfl⟩ := H
             have TK0_ := Aside0.mk trivial; have TK1_ := Aside0.mk trivial; have TK2_ := Aside0.mk trivial
             go_wp2_with (first | (clear TK0_; (with_reducible refine gate_callee (f := 50) rfl ?_); refine goesL_ (some 59) rfl rfl Tryd.func50 (by kernel_rfl) rfl #[.pointer (some ⟨g, 0, none⟩), .int .i64 a1] rfl (by (try simp only [List.map_toArray, List.map_cons, List.map_nil]); first | done | rfl | (simp only [List.length_drop, List.length_take]; rfl)) ?_; (with_reducible refine (spec_l20Rd_odd.calls kj20 g s0_0 x1001_2 a1 true t272 w0 _ ?side1 ?side2 A43.out).mono ?_); (case side1 => repeat (first | (with_reducible first | exact HI0.out | apply IsS127.alloc | apply IsS127.drewN | apply IsS127.drew | apply IsS127.set_1 | refine IsS127.far ?_ NB0_252.out _ | refine IsS127.far ?_ NB0_255.out _) | exact HI0.out)); (case side2 => repeat (first | (with_reducible first | exact HB.out | apply below_alloc | apply pw_below_drewN | apply below_drew1 | refine below_set ?_ (IsS127.ge HI0.out) | refine below_set ?_ GE252.out | refine below_set ?_ GE255.out) | exact HB.out)); rintro e w76 ⟨rfl, hi, hb, hk⟩; refine ⟨_, rfl, ?_⟩; have n0_ := Aside0.mk (Kd.R_mono (Kd.R_keep (IsS127.apart (show IsS127 w0 _ g s0_0 x1001_2 from by repeat (first | (with_reducible first | exact HI0.out | apply IsS127.alloc | apply IsS127.drewN | apply IsS127.drew | apply IsS127.set_1 | refine IsS127.far ?_ NB0_252.out _ | refine IsS127.far ?_ NB0_255.out _) | exact HI0.out)) (rk HO_256001) (by decide)) hk (fun _ h => h.2)) (fun _ h => h.1)); have n1_ := Aside0.mk (KeepBut.blk hk (g' := gb252) (o := .cells #[.int .i64 0, .slice none 0 0] 40 (0, 0)) (bk BK252) NB252_0.out (by simp)); have n2_ := Aside0.mk (KeepBut.blk hk (g' := gb255) (o := .cells #[.int .i64 x256000_4, u256001] 40 (0, 0)) (bk BK255) NB255_0.out (by simp)); have n3_ := Aside0.mk (KeepBut.trans (by repeat (first | (with_reducible first | exact HK.out | apply KeepBut.set_ | apply keep_drewN | apply keep_drew | apply keep_alloc | refine keep_far ?_ GW252.out _ | refine keep_far ?_ GW255.out _) | exact HK.out)) hk (.inl rfl)); have n4_ := Aside0.mk (hb); have n5_ := Aside0.mk (hi); clear HO_256001 BK252 BK255 HK HB HI0; have HO_256001 := n0_; have BK252 := n1_; have BK255 := n2_; have HK := n3_; have HB := n4_; have HI0 := n5_; clear n0_ n1_ n2_ n3_ n4_ n5_; (try clear hb); (try clear hb2); (try clear hk); (try clear hi)) | (clear TK1_; (with_reducible refine gate_callee (f := 60) rfl ?_); refine goesL_ (some 61) rfl rfl Tryd.func60 (by kernel_rfl) rfl #[.pointer (some ⟨g, 0, none⟩), .int .i64 5] rfl (by (try simp only [List.map_toArray, List.map_cons, List.map_nil]); first | done | rfl | (simp only [List.length_drop, List.length_take]; rfl)) ?_; (with_reducible refine (spec_l20Rd_pick.calls kj20 g s0_0 t272 5 t273 t274 w0 _ ?side1 ?side2 A45.out).mono ?_); (case side1 => repeat (first | (with_reducible first | exact HI0.out | apply IsS127.alloc | apply IsS127.drewN | apply IsS127.drew | apply IsS127.set_1 | refine IsS127.far ?_ NB0_252.out _ | refine IsS127.far ?_ NB0_255.out _) | exact HI0.out)); (case side2 => repeat (first | (with_reducible first | exact HB.out | apply below_alloc | apply pw_below_drewN | apply below_drew1 | refine below_set ?_ (IsS127.ge HI0.out) | refine below_set ?_ GE252.out | refine below_set ?_ GE255.out) | exact HB.out)); rintro e w77 ⟨rfl, hi, hb, hk⟩; refine ⟨_, rfl, ?_⟩; have n0_ := Aside0.mk (Kd.R_mono (Kd.R_keep (IsS127.apart (show IsS127 w0 _ g s0_0 t272 from by repeat (first | (with_reducible first | exact HI0.out | apply IsS127.alloc | apply IsS127.drewN | apply IsS127.drew | apply IsS127.set_1 | refine IsS127.far ?_ NB0_252.out _ | refine IsS127.far ?_ NB0_255.out _) | exact HI0.out)) (rk HO_256001) (by decide)) hk (fun _ h => h.2)) (fun _ h => h.1)); have n1_ := Aside0.mk (KeepBut.blk hk (g' := gb252) (o := .cells #[.int .i64 0, .slice none 0 0] 40 (0, 0)) (bk BK252) NB252_0.out (by simp)); have n2_ := Aside0.mk (KeepBut.blk hk (g' := gb255) (o := .cells #[.int .i64 x256000_4, u256001] 40 (0, 0)) (bk BK255) NB255_0.out (by simp)); have n3_ := Aside0.mk (KeepBut.trans (by repeat (first | (with_reducible first | exact HK.out | apply KeepBut.set_ | apply keep_drewN | apply keep_drew | apply keep_alloc | refine keep_far ?_ GW252.out _ | refine keep_far ?_ GW255.out _) | exact HK.out)) hk (.inl rfl)); have n4_ := Aside0.mk (hb); have n5_ := Aside0.mk (hi); clear HO_256001 BK252 BK255 HK HB HI0; have HO_256001 := n0_; have BK252 := n1_; have BK255 := n2_; have HK := n3_; have HB := n4_; have HI0 := n5_; clear n0_ n1_ n2_ n3_ n4_ n5_; (try clear hb); (try clear hb2); (try clear hk); (try clear hi); have hnb78 := NB255_252.out; have hnc78 := NB252_255.out; have hnb79 := NB255_0.out; have hnc79 := NB0_255.out; have hcz80_0 : w77.cell? ⟨gb255, 0, none⟩ = some (.int .i64 x256000_4) := (blk_cell BK255.out 0).trans rfl; have hcz80_1 : w77.cell? ⟨gb255, 1, none⟩ = some (u256001) := (blk_cell BK255.out 1).trans rfl; have hfz80_0 := blk_frozen BK255.out 0; have hfz80_1 := blk_frozen BK255.out 1) | (clear TK2_; (with_reducible refine gate_builtin (b := .append) (xs := #[.tmp 85, .tmp 87]) rfl ?_); at_builtin; refine Kd.R_append k42 w.heap.size rfl (.tmp 85) (.tmp 87) 38 42 (.agg #[(.int .i64 0), (.int .i64 0), (.int .i64 0)]) 24 rfl Tryd.underlying38 info42 rfl (by decide) (by omega) u256001 x256001_2 (⟨0, 0, 5⟩ : S42) [.int .i64 0, .int .i64 0, .int .i64 5] (fun _ => True) (fun _ => False) rfl rfl ?aP (fun _ hk => by first | exact hk.elim | grind) ?aF ?aO (Below.refl _ _) ?aS ?aL ?_; (case aP => exact k42_mkM _ _ _ (⟨0, 0, 5⟩ : S42)); (case aF => exact (fun _ _ => trivial)); (case aO => exact (rk HO_256001)); (case aS => exact (keep_size (w := w) (g := g) (row := none) (by repeat (first | (with_reducible first | exact HK.out | apply KeepBut.set_ | apply keep_drewN | apply keep_drew | apply keep_alloc | refine keep_far ?_ GW252.out _ | refine keep_far ?_ GW255.out _) | exact HK.out)))); (case aL => have := LMc75.out; omega); intro v285 w81 ho hb hg hat; rw [← Ny284.out] at ho; have n0_ := Aside0.mk (blk_grown (g := gb252) (o := .cells #[.int .i64 0, .slice none 0 0] 40 (0, 0)) (bk BK252) hg (Kd.R_ne HO_256001.out BK252.out (by decide))); have n1_ := Aside0.mk (blk_grown (g := gb255) (o := .cells #[.int .i64 x256000_4, u256001] 40 (0, 0)) (bk BK255) hg (Kd.R_ne HO_256001.out BK255.out (by decide))); have n2_ := Aside0.mk (IsS127.grown (by repeat (first | (with_reducible first | exact HI0.out | apply IsS127.alloc | apply IsS127.drewN | apply IsS127.drew | apply IsS127.set_1 | refine IsS127.far ?_ NB0_252.out _ | refine IsS127.far ?_ NB0_255.out _) | exact HI0.out)) hg (IsS127.own_ne HI0.out HO_256001.out (by decide))); have n3_ := Aside0.mk (below_weaken (by repeat (first | (with_reducible first | exact HB.out | apply below_alloc | apply pw_below_drewN | apply below_drew1 | refine below_set ?_ (IsS127.ge HI0.out) | refine below_set ?_ GE252.out | refine below_set ?_ GE255.out) | exact HB.out)) HL.out hb); have n4_ := Aside0.mk (KeepBut.trans (by repeat (first | (with_reducible first | exact HK.out | apply KeepBut.set_ | apply keep_drewN | apply keep_drew | apply keep_alloc | refine keep_far ?_ GW252.out _ | refine keep_far ?_ GW255.out _) | exact HK.out)) (KeepBut.of_grown hg g) (Kd.R_base2 HO_256001.out)); have n5_ := Aside0.mk (ho); clear BK252 BK255 HI0 HB HK HO_256001; have BK252 := n0_; have BK255 := n1_; have HI0 := n2_; have HB := n3_; have HK := n4_; have HO286 := n5_; clear n0_ n1_ n2_ n3_ n4_ n5_; clear ho hb hg hat; obtain ⟨Ao82, co82, eo82⟩ := Kd.R_slice HO286.out; subst eo82; have hcz83_0 : w81.cell? ⟨gb255, 0, none⟩ = some (.int .i64 x256000_4) := (blk_cell BK255.out 0).trans rfl; have hcz83_1 : w81.cell? ⟨gb255, 1, none⟩ = some (u256001) := (blk_cell BK255.out 1).trans rfl; have hfz83_0 := blk_frozen BK255.out 0; have hfz83_1 := blk_frozen BK255.out 1; have hnb84 := NB252_0.out; have hnc84 := NB0_252.out; have hcz85_0 : w81.cell? ⟨gb252, 0, none⟩ = some (.int .i64 0) := (blk_cell BK252.out 0).trans rfl; have hcz85_1 : w81.cell? ⟨gb252, 1, none⟩ = some (.slice none 0 0) := (blk_cell BK252.out 1).trans rfl; have hfz85_0 := blk_frozen BK252.out 0; have hfz85_1 := blk_frozen BK252.out 1))
             refine bodyPost_ret (results_cell_row rfl _ _ gb252 40 #[.int .i64 x256000_4, .slice Ao82 y284.length co82] (0, 0) _ rfl (by (with_reducible repeat (first | refine blk_drewN ?_ _ | refine blk_drew ?_ | refine blk_alloc ?_ _)); refine blk_put (cs := #[.int .i64 x256000_4, .slice none 0 0]) ?_ 1 _ rfl; (with_reducible repeat (first | refine blk_drewN ?_ _ | refine blk_drew ?_ | refine blk_alloc ?_ _)); refine blk_put (cs := #[.int .i64 0, .slice none 0 0]) ?_ 0 _ rfl; (with_reducible repeat (first | refine blk_drewN ?_ _ | refine blk_drew ?_ | refine blk_alloc ?_ _)); refine blk_far ?_ NB252_255.out _; (with_reducible repeat (first | refine blk_drewN ?_ _ | refine blk_drew ?_ | refine blk_alloc ?_ _)); exact BK252.out) Tryd.underlying40 rfl (by kernel_rfl)) rfl ?_
             exact ⟨_, by first | rfl | (simp [errW_none, errW_some] <;> rfl) | (simp [*, errW_none, errW_some] <;> rfl), by (with_reducible repeat (first | apply Kd.R_alloc | apply Kd.R_drewN | apply Kd.R_drew)); exact Kd.R_mono (Kd.R_far (p := ⟨gb252, 1, none⟩) (Kd.R_far (p := ⟨gb252, 0, none⟩) (Kd.R_far (p := ⟨gb255, 1, none⟩) (Kd.R_types (Kd.R_types HO286.out BK255.out (by decide)) BK252.out (by decide)) (fun _ hk => by first | exact hk.1.2 | grind) (.slice Ao82 y284.length co82)) (fun _ hk => by first | exact hk.2 | grind) (.int .i64 x256000_4)) (fun _ hk => by first | exact hk.2 | grind) (.slice Ao82 y284.length co82)) (fun _ hk => trivial), by repeat (first | (with_reducible first | exact HI0.out | apply IsS127.alloc | apply IsS127.drewN | apply IsS127.drew | apply IsS127.set_1 | refine IsS127.far ?_ NB0_252.out _ | refine IsS127.far ?_ NB0_255.out _) | exact HI0.out), by repeat (first | (with_reducible first | exact HB.out | apply below_alloc | apply pw_below_drewN | apply below_drew1 | refine below_set ?_ (IsS127.ge HI0.out) | refine below_set ?_ GE252.out | refine below_set ?_ GE255.out) | exact HB.out), by repeat (first | (with_reducible first | exact HK.out | apply KeepBut.set_ | apply keep_drewN | apply keep_drew | apply keep_alloc | refine keep_far ?_ GW252.out _ | refine keep_far ?_ GW255.out _) | exact HK.out)⟩
            ·rw [if_neg c75] at H
             exact absurd H (by simp)
           ·rw [if_neg c74] at H
            have c74b0 : (t273 == 2) = false := beq_eq_false_iff_ne.mpr c74
            have c74b1 : (t273 != 2) = true := bne_iff_ne.mpr c74
            by_cases c86 : t273 = 3
            ·rw [if_pos c86] at H
             have c86b0 : (t273 == 3) = true := beq_iff_eq.mpr c86
             have c86b1 : (t273 != 3) = false := bne_eq_false_iff_eq.mpr c86
             clear c86
             obtain ⟨y287, hy287⟩ : ∃ y_ : List Int, y_ = (([0, 1000] : List Int)) := ⟨_, rfl⟩
             replace H : ((spec_l20Rd_pick.f kj20 s0_0 t274 2).bind fun bt290 => (if 0 ≤ bt290.1 then (if bt290.1 < (y287.length : Int) then (if x256001_2.length < 5864062014805 then (some (x256000_4, (x256001_2 ++ [(⟨0, 1, rd y287 bt290.1⟩ : S42)]), bt290.2)) else (none)) else (none)) else (none))) = some (r1, r2, r3) := by first | (rw [hy287]; with_reducible exact H) | (have H2_ := (Option.bind_some _ _).symm.trans H; rw [hy287]; with_reducible exact H2_) | (have H2_ := (Option.bind_some _ _).symm.trans H; with_reducible exact H2_) | with_reducible exact H | (rw [hy287]; exact H) | exact H
             have Ny287 := Aside0.mk hy287
             clear hy287
             replace H := Option.bind_eq_some_iff.mp H
             obtain ⟨⟨t290, t291⟩, A870, H⟩ := H
             replace H : (if 0 ≤ t290 then (if t290 < (y287.length : Int) then (if x256001_2.length < 5864062014805 then (some (x256000_4, (x256001_2 ++ [(⟨0, 1, rd y287 t290⟩ : S42)]), t291)) else (none)) else (none)) else (none)) = some (r1, r2, r3) := H
             have A87 := Aside0.mk A870
             clear A870
             by_cases c88 : 0 ≤ t290
             ·rw [if_pos c88] at H
              have c88b0 : decide (0 ≤ t290) = true := decide_eq_true c88
              clear c88
              by_cases c89 : t290 < (y287.length : Int)
              ·rw [if_pos c89] at H
               have c89b0 : decide (t290 < (y287.length : Int)) = true := decide_eq_true c89
               clear c89
               by_cases c90 : x256001_2.length < 5864062014805
               ·rw [if_pos c90] at H
                have LMc90 := Aside0.mk c90
                clear c90
                obtain ⟨y293, hy293⟩ : ∃ y_ : List (S42), y_ = (x256001_2 ++ [(⟨0, 1, rd y287 t290⟩ : S42)]) := ⟨_, rfl⟩
                replace H : (some (x256000_4, y293, t291)) = some (r1, r2, r3) := by first | (rw [hy293]; with_reducible exact H) | (have H2_ := (Option.bind_some _ _).symm.trans H; rw [hy293]; with_reducible exact H2_) | (have H2_ := (Option.bind_some _ _).symm.trans H; with_reducible exact H2_) | with_reducible exact H | (rw [hy293]; exact H) | exact H
                have Ny293 := Aside0.mk hy293
                clear hy293
                simp only [Option.some.injEq, Prod.mk.injEq] at H
                obtain ⟨rfl, rfl, rfl⟩ := H
                try go_wp2_with (first | ((with_reducible refine gate_callee (f := 50) rfl ?_); refine goesL_ (some 59) rfl rfl Tryd.func50 (by kernel_rfl) rfl #[.pointer (some ⟨g, 0, none⟩), .int .i64 a1] rfl (by (try simp only [List.map_toArray, List.map_cons, List.map_nil]); first | done | rfl | (simp only [List.length_drop, List.length_take]; rfl)) ?_; (with_reducible refine (spec_l20Rd_odd.calls kj20 g s0_0 x1001_2 a1 true t272 w0 _ ?side1 ?side2 A43.out).mono ?_); (case side1 => repeat (first | (with_reducible first | exact HI0.out | apply IsS127.alloc | apply IsS127.drewN | apply IsS127.drew | apply IsS127.set_1 | refine IsS127.far ?_ NB0_252.out _ | refine IsS127.far ?_ NB0_255.out _) | exact HI0.out)); (case side2 => repeat (first | (with_reducible first | exact HB.out | apply below_alloc | apply pw_below_drewN | apply below_drew1 | refine below_set ?_ (IsS127.ge HI0.out) | refine below_set ?_ GE252.out | refine below_set ?_ GE255.out) | exact HB.out)); rintro e w91 ⟨rfl, hi, hb, hk⟩; refine ⟨_, rfl, ?_⟩; have n0_ := Aside0.mk (Kd.R_mono (Kd.R_keep (IsS127.apart (show IsS127 w0 _ g s0_0 x1001_2 from by repeat (first | (with_reducible first | exact HI0.out | apply IsS127.alloc | apply IsS127.drewN | apply IsS127.drew | apply IsS127.set_1 | refine IsS127.far ?_ NB0_252.out _ | refine IsS127.far ?_ NB0_255.out _) | exact HI0.out)) (rk HO_256001) (by decide)) hk (fun _ h => h.2)) (fun _ h => h.1)); have n1_ := Aside0.mk (KeepBut.blk hk (g' := gb252) (o := .cells #[.int .i64 0, .slice none 0 0] 40 (0, 0)) (bk BK252) NB252_0.out (by simp)); have n2_ := Aside0.mk (KeepBut.blk hk (g' := gb255) (o := .cells #[.int .i64 x256000_4, u256001] 40 (0, 0)) (bk BK255) NB255_0.out (by simp)); have n3_ := Aside0.mk (KeepBut.trans (by repeat (first | (with_reducible first | exact HK.out | apply KeepBut.set_ | apply keep_drewN | apply keep_drew | apply keep_alloc | refine keep_far ?_ GW252.out _ | refine keep_far ?_ GW255.out _) | exact HK.out)) hk (.inl rfl)); have n4_ := Aside0.mk (hb); have n5_ := Aside0.mk (hi); clear HO_256001 BK252 BK255 HK HB HI0; have HO_256001 := n0_; have BK252 := n1_; have BK255 := n2_; have HK := n3_; have HB := n4_; have HI0 := n5_; clear n0_ n1_ n2_ n3_ n4_ n5_; (try clear hb); (try clear hb2); (try clear hk); (try clear hi)) | ((with_reducible refine gate_callee (f := 60) rfl ?_); refine goesL_ (some 61) rfl rfl Tryd.func60 (by kernel_rfl) rfl #[.pointer (some ⟨g, 0, none⟩), .int .i64 5] rfl (by (try simp only [List.map_toArray, List.map_cons, List.map_nil]); first | done | rfl | (simp only [List.length_drop, List.length_take]; rfl)) ?_; (with_reducible refine (spec_l20Rd_pick.calls kj20 g s0_0 t272 5 t273 t274 w0 _ ?side1 ?side2 A45.out).mono ?_); (case side1 => repeat (first | (with_reducible first | exact HI0.out | apply IsS127.alloc | apply IsS127.drewN | apply IsS127.drew | apply IsS127.set_1 | refine IsS127.far ?_ NB0_252.out _ | refine IsS127.far ?_ NB0_255.out _) | exact HI0.out)); (case side2 => repeat (first | (with_reducible first | exact HB.out | apply below_alloc | apply pw_below_drewN | apply below_drew1 | refine below_set ?_ (IsS127.ge HI0.out) | refine below_set ?_ GE252.out | refine below_set ?_ GE255.out) | exact HB.out)); rintro e w92 ⟨rfl, hi, hb, hk⟩; refine ⟨_, rfl, ?_⟩; have n0_ := Aside0.mk (Kd.R_mono (Kd.R_keep (IsS127.apart (show IsS127 w0 _ g s0_0 t272 from by repeat (first | (with_reducible first | exact HI0.out | apply IsS127.alloc | apply IsS127.drewN | apply IsS127.drew | apply IsS127.set_1 | refine IsS127.far ?_ NB0_252.out _ | refine IsS127.far ?_ NB0_255.out _) | exact HI0.out)) (rk HO_256001) (by decide)) hk (fun _ h => h.2)) (fun _ h => h.1)); have n1_ := Aside0.mk (KeepBut.blk hk (g' := gb252) (o := .cells #[.int .i64 0, .slice none 0 0] 40 (0, 0)) (bk BK252) NB252_0.out (by simp)); have n2_ := Aside0.mk (KeepBut.blk hk (g' := gb255) (o := .cells #[.int .i64 x256000_4, u256001] 40 (0, 0)) (bk BK255) NB255_0.out (by simp)); have n3_ := Aside0.mk (KeepBut.trans (by repeat (first | (with_reducible first | exact HK.out | apply KeepBut.set_ | apply keep_drewN | apply keep_drew | apply keep_alloc | refine keep_far ?_ GW252.out _ | refine keep_far ?_ GW255.out _) | exact HK.out)) hk (.inl rfl)); have n4_ := Aside0.mk (hb); have n5_ := Aside0.mk (hi); clear HO_256001 BK252 BK255 HK HB HI0; have HO_256001 := n0_; have BK252 := n1_; have BK255 := n2_; have HK := n3_; have HB := n4_; have HI0 := n5_; clear n0_ n1_ n2_ n3_ n4_ n5_; (try clear hb); (try clear hb2); (try clear hk); (try clear hi); obtain ⟨Ao93, co93, eo93⟩ := Kd.R_slice HO_256001.out; subst eo93))
                have pi292 : (0 ≤ (t290 : Int)) = True := eq_true (of_decide_eq_true (by first | (with_reducible assumption) | assumption))
                have qi292 : (t290 < (y287.length : Int)) = True := eq_true (of_decide_eq_true (by first | (with_reducible assumption) | assumption))
                have n0_ := Aside0.mk (Kd.R_drew HO_256001.out)
                have n1_ := Aside0.mk (blk_drew BK252.out)
                have n2_ := Aside0.mk (blk_drew BK255.out)
                have n3_ := Aside0.mk (IsS127.drew HI0.out)
                have n4_ := Aside0.mk (keep_drew HK.out)
                have n5_ := Aside0.mk (below_drew1 HB.out)
                clear HO_256001
                clear BK252
                clear BK255
                clear HI0
                clear HK
                clear HB
                have HO_256001 := n0_
                have BK252 := n1_
                have BK255 := n2_
                have HI0 := n3_
                have HK := n4_
                have HB := n5_
                clear n0_ n1_ n2_ n3_ n4_ n5_
                refine start_ (n := 12) (S := fun w' => w'.cell? ⟨gb255, 0, none⟩ = some (.int .i64 x256000_4) ∧ w'.cell? ⟨gb255, 1, none⟩ = some (.slice Ao93 x256001_2.length co93)) (ds := [11]) (bz 12 0) (by kernel_rfl) rfl rfl ⟨(blk_cell BK255.out 0).trans rfl, (blk_cell BK255.out 1).trans rfl⟩ (fun hHeld => ?_); refine with_tabW spec_l20Net.tab20 spec_l20Net.bits20 (fun HT_ HW_ => ?_)
                generalize w92.drew = w94 at HO_256001 BK252 BK255 HI0 HK HB hHeld ⊢
                refine pure_ (i := 0) (N := some 92) (v := ?_) (a' := ?_) (bz 12 1) rfl rfl (any_of HT_.out (by kernel_rfl)) (fun _ _ _ h => h) (Or.inl ⟨by rfl, ?_⟩) ?_ ?_
                rotate_left
                ·intro w'
                 go_simp
                 with_reducible rfl
                rotate_left
                ·simp only [Act.put, List.setIfInBounds_toArray, List.set_cons_zero, List.set_cons_succ, i64_w, i32_w]
                 rfl
                refine pure_ (i := 3) (N := some 95) (v := ?_) (a' := ?_) (bz 12 9) rfl rfl (any_of HT_.out (by kernel_rfl)) (fun _ _ _ h => h) (Or.inl ⟨by rfl, ?_⟩) ?_ ?_
                rotate_left
                ·intro w'
                 go_simp
                 with_reducible rfl
                rotate_left
                ·simp only [Act.put, List.setIfInBounds_toArray, List.set_cons_zero, List.set_cons_succ, i64_w, i32_w]
                 rfl
                refine take_ (i := 1) (N := some 93) (v := ?_) (a' := ?_) (bz 12 11) rfl rfl (take_ofW HT_.out HW_.out (by kernel_rfl)) (fun _ _ _ h => h) (Or.inl ⟨by rfl, ?_⟩) hHeld ?_ ?_
                rotate_left
                ·rintro w' ⟨s0, s1⟩
                 go_simp
                 with_reducible rfl
                rotate_left
                ·simp only [Act.put, List.setIfInBounds_toArray, List.set_cons_zero, List.set_cons_succ, i64_w, i32_w]
                 rfl
                refine join_ (σ := Value × Addr) 7 (bz 12 31) (fun s_ => [(94, s_.1), (96, .int .i64 t290)]) (fun s_ w' => (w'.cell? ⟨gb255, 0, none⟩ = some (.int .i64 x256000_4) ∧ w'.cell? ⟨gb255, 1, none⟩ = some (.slice Ao93 x256001_2.length co93)) ∧ (Kd.R (Kd.int .i64) 3 w' w.heap.size (fun _ => True) s_.1 y287) ∧ (Kd.R k42 42 w' w.heap.size (fun _ => True) (.slice Ao93 x256001_2.length co93) x256001_2) ∧ (∃ c_, (s_.1 : Value) = .slice (some s_.2) y287.length c_) ∧ (w'.heap[gb252]? = some (.cells #[.int .i64 0, .slice none 0 0] 40 (0, 0))) ∧ (w'.heap[gb255]? = some (.cells #[.int .i64 x256000_4, .slice Ao93 x256001_2.length co93] 40 (0, 0))) ∧ (IsS127 w0 w' g s0_0 t291) ∧ (KeepBut w w' g none) ∧ (Below w0.heap.size w0 w')) ?_ ?_
                rotate_left
                ·intro hCont
                 refine two_ (i := 2) (j := 4) (Ni := some 94) (Nj := some 96) (bz 12 15) (bz 12 27) rfl rfl rfl rfl (two_of HT_.out (by kernel_rfl)) (by decide) (by decide) (fun K hK => ?_) (fun K hK => ?_)
                 ·skip
                  refine Kd.R_lit_step (Kd.int .i64) _ 3 ?hg (N := 94) ?hd (xs := ([0, 1000] : List Int)) (inner := [.int .i64 0, .int .i64 1000]) (ok := fun _ => True) (okp := fun _ => True) ?hr ?hp (fun _ hk => by first | exact hk | grind) trivial (Below.refl _ _) (Nat.le_refl _) (by simp) ?_; (case hd => rfl); (case hg => rfl); (case hr => first | (go_simp; done) | (go_simp; rfl)); (case hp => exact (Reps.one (show Kd.M (Kd.int .i64) _ _ _ 0 [.int .i64 0] from rfl) (Reps.one (show Kd.M (Kd.int .i64) _ _ _ 1000 [.int .i64 1000] from rfl) (Reps.none _ _))))
                  intro v288 w95 ho96 hb hg_ hnew_
                  clear hg_ hnew_
                  (first | rw [← Ny287.out] at ho96 | (simp only [Int.reduceToNat] at ho96; rw [← Ny287.out] at ho96))
                  have n0_ := rB HO_256001 hb
                  have n1_ := Aside0.mk (Kd.R_lower ho96 (keep_size (w := w) (g := g) (row := none) (by repeat (first | (with_reducible first | exact HK.out | apply KeepBut.set_ | apply keep_drewN | apply keep_drew | apply keep_alloc | refine keep_far ?_ GW252.out _ | refine keep_far ?_ GW255.out _) | exact HK.out))))
                  have n2_ := bkB BK252 hb
                  have n3_ := bkB BK255 hb
                  have n4_ := Aside0.mk (IsS127.below (by repeat (first | (with_reducible first | exact HI0.out | apply IsS127.alloc | apply IsS127.drewN | apply IsS127.drew | apply IsS127.set_1 | refine IsS127.far ?_ NB0_252.out _ | refine IsS127.far ?_ NB0_255.out _) | exact HI0.out)) hb)
                  have n5_ := Aside0.mk (KeepBut.trans (by repeat (first | (with_reducible first | exact HK.out | apply KeepBut.set_ | apply keep_drewN | apply keep_drew | apply keep_alloc | refine keep_far ?_ GW252.out _ | refine keep_far ?_ GW255.out _) | exact HK.out)) (KeepBut.of_below hb g none) (.inl rfl))
                  have n6_ := Aside0.mk (below_step (by repeat (first | (with_reducible first | exact HB.out | apply below_alloc | apply pw_below_drewN | apply below_drew1 | refine below_set ?_ (IsS127.ge HI0.out) | refine below_set ?_ GE252.out | refine below_set ?_ GE255.out) | exact HB.out)) hb)
                  clear HO_256001
                  clear BK252
                  clear BK255
                  clear HI0
                  clear HK
                  clear HB
                  have HO_256001 := n0_
                  have HO289 := n1_
                  have BK252 := n2_
                  have BK255 := n3_
                  have HI0 := n4_
                  have HK := n5_
                  have HB := n6_
                  clear n0_ n1_ n2_ n3_ n4_ n5_ n6_
                  clear hb ho96
                  obtain ⟨Ao97, co97, eo97⟩ := Kd.R_slice HO289.out
                  subst eo97
                  obtain ⟨ado97, fo97, _⟩ := Kd.at_int (Kd.R_reads' HO289.out).2.2 0 (by decide) (by rw [Ny287.out]; simp)
                  cases fo97
                  refine hK.out _ _ ⟨(blk_cell BK255.out 0).trans rfl, (blk_cell BK255.out 1).trans rfl⟩ (fun hHeld => ?_)
                  clear hK K
                  refine norm_ (a' := ?_) ?_ ?_
                  rotate_left
                  ·show Act.put _ (some 94) _ = _
                   simp only [Act.put, List.setIfInBounds_toArray, List.set_cons_zero, List.set_cons_succ, i64_w, i32_w]
                   rfl
                  refine one_ (i := 4) (N := some 96) (bz 12 31) rfl rfl (one_of HT_.out (by kernel_rfl)) (by decide) (fun K hK => ?_)
                  refine goes_ Tryd.func60 (by kernel_rfl) rfl #[.pointer (some ⟨g, 0, none⟩), .int .i64 2] (by rfl) rfl rfl (by (try simp only [List.map_toArray, List.map_cons, List.map_nil]); first | done | rfl | (simp only [List.length_drop, List.length_take]; rfl)) ?_
                  with_reducible refine (spec_l20Rd_pick.calls kj20 g s0_0 t274 2 t290 t291 w0 _ ?side1 ?side2 A87.out).mono ?_
                  (case side1 => repeat (first | (with_reducible first | exact HI0.out | apply IsS127.alloc | apply IsS127.drewN | apply IsS127.drew | apply IsS127.set_1 | refine IsS127.far ?_ NB0_252.out _ | refine IsS127.far ?_ NB0_255.out _) | exact HI0.out))
                  (case side2 => repeat (first | (with_reducible first | exact HB.out | apply below_alloc | apply pw_below_drewN | apply below_drew1 | refine below_set ?_ (IsS127.ge HI0.out) | refine below_set ?_ GE252.out | refine below_set ?_ GE255.out) | exact HB.out))
                  rintro e w98 ⟨rfl, hi, hb, hk⟩
                  refine ⟨_, rfl, ?_⟩
                  have n0_ := Aside0.mk (Kd.R_mono (Kd.R_keep (IsS127.apart (show IsS127 w0 _ g s0_0 t274 from by repeat (first | (with_reducible first | exact HI0.out | apply IsS127.alloc | apply IsS127.drewN | apply IsS127.drew | apply IsS127.set_1 | refine IsS127.far ?_ NB0_252.out _ | refine IsS127.far ?_ NB0_255.out _) | exact HI0.out)) (rk HO_256001) (by decide)) hk (fun _ h => h.2)) (fun _ h => h.1))
                  have n1_ := Aside0.mk (KeepBut.blk hk (g' := gb252) (o := .cells #[.int .i64 0, .slice none 0 0] 40 (0, 0)) (bk BK252) NB252_0.out (by simp))
                  have n2_ := Aside0.mk (KeepBut.blk hk (g' := gb255) (o := .cells #[.int .i64 x256000_4, .slice Ao93 x256001_2.length co93] 40 (0, 0)) (bk BK255) NB255_0.out (by simp))
                  have n3_ := Aside0.mk (Kd.R_mono (Kd.R_keep (IsS127.apart (show IsS127 w0 _ g s0_0 t274 from by repeat (first | (with_reducible first | exact HI0.out | apply IsS127.alloc | apply IsS127.drewN | apply IsS127.drew | apply IsS127.set_1 | refine IsS127.far ?_ NB0_252.out _ | refine IsS127.far ?_ NB0_255.out _) | exact HI0.out)) (rk HO289) (by decide)) hk (fun _ h => h.2)) (fun _ h => h.1))
                  have n4_ := Aside0.mk (KeepBut.trans (by repeat (first | (with_reducible first | exact HK.out | apply KeepBut.set_ | apply keep_drewN | apply keep_drew | apply keep_alloc | refine keep_far ?_ GW252.out _ | refine keep_far ?_ GW255.out _) | exact HK.out)) hk (.inl rfl))
                  have n5_ := Aside0.mk (hb)
                  have n6_ := Aside0.mk (hi)
                  clear HO_256001
                  clear BK252
                  clear BK255
                  clear HO289
                  clear HK
                  clear HB
                  clear HI0
                  have HO_256001 := n0_
                  have BK252 := n1_
                  have BK255 := n2_
                  have HO289 := n3_
                  have HK := n4_
                  have HB := n5_
                  have HI0 := n6_
                  clear n0_ n1_ n2_ n3_ n4_ n5_ n6_
                  (try clear hb)
                  (try clear hb2)
                  (try clear hk)
                  (try clear hi)
                  refine hK.out _ _ ⟨(blk_cell BK255.out 0).trans rfl, (blk_cell BK255.out 1).trans rfl⟩ (fun hHeld => ?_)
                  clear hK K
                  refine norm_ (a' := ?_) ?_ ?_
                  rotate_left
                  ·show Act.put _ (some 96) _ = _
                   simp only [Act.put, List.setIfInBounds_toArray, List.set_cons_zero, List.set_cons_succ, i64_w, i32_w]
                   rfl
                  exact norm_ (by simp only [putAll, Act.put, List.setIfInBounds_toArray, List.set_cons_zero, List.set_cons_succ]) (hCont (.slice (some ado97) y287.length co97, ado97) _ ⟨hHeld, (rk HO289), (rk HO_256001), ⟨_, rfl⟩, (bk BK252), (bk BK255), (by repeat (first | (with_reducible first | exact HI0.out | apply IsS127.alloc | apply IsS127.drewN | apply IsS127.drew | apply IsS127.set_1 | refine IsS127.far ?_ NB0_252.out _ | refine IsS127.far ?_ NB0_255.out _) | exact HI0.out)), (by repeat (first | (with_reducible first | exact HK.out | apply KeepBut.set_ | apply keep_drewN | apply keep_drew | apply keep_alloc | refine keep_far ?_ GW252.out _ | refine keep_far ?_ GW255.out _) | exact HK.out)), (by repeat (first | (with_reducible first | exact HB.out | apply below_alloc | apply pw_below_drewN | apply below_drew1 | refine below_set ?_ (IsS127.ge HI0.out) | refine below_set ?_ GE252.out | refine below_set ?_ GE255.out) | exact HB.out))⟩)
                 ·skip
                  refine goes_ Tryd.func60 (by kernel_rfl) rfl #[.pointer (some ⟨g, 0, none⟩), .int .i64 2] (by rfl) rfl rfl (by (try simp only [List.map_toArray, List.map_cons, List.map_nil]); first | done | rfl | (simp only [List.length_drop, List.length_take]; rfl)) ?_
                  with_reducible refine (spec_l20Rd_pick.calls kj20 g s0_0 t274 2 t290 t291 w0 _ ?side1 ?side2 A87.out).mono ?_
                  (case side1 => repeat (first | (with_reducible first | exact HI0.out | apply IsS127.alloc | apply IsS127.drewN | apply IsS127.drew | apply IsS127.set_1 | refine IsS127.far ?_ NB0_252.out _ | refine IsS127.far ?_ NB0_255.out _) | exact HI0.out))
                  (case side2 => repeat (first | (with_reducible first | exact HB.out | apply below_alloc | apply pw_below_drewN | apply below_drew1 | refine below_set ?_ (IsS127.ge HI0.out) | refine below_set ?_ GE252.out | refine below_set ?_ GE255.out) | exact HB.out))
                  rintro e w95 ⟨rfl, hi, hb, hk⟩
                  refine ⟨_, rfl, ?_⟩
                  have n0_ := Aside0.mk (Kd.R_mono (Kd.R_keep (IsS127.apart (show IsS127 w0 _ g s0_0 t274 from by repeat (first | (with_reducible first | exact HI0.out | apply IsS127.alloc | apply IsS127.drewN | apply IsS127.drew | apply IsS127.set_1 | refine IsS127.far ?_ NB0_252.out _ | refine IsS127.far ?_ NB0_255.out _) | exact HI0.out)) (rk HO_256001) (by decide)) hk (fun _ h => h.2)) (fun _ h => h.1))
                  have n1_ := Aside0.mk (KeepBut.blk hk (g' := gb252) (o := .cells #[.int .i64 0, .slice none 0 0] 40 (0, 0)) (bk BK252) NB252_0.out (by simp))
                  have n2_ := Aside0.mk (KeepBut.blk hk (g' := gb255) (o := .cells #[.int .i64 x256000_4, .slice Ao93 x256001_2.length co93] 40 (0, 0)) (bk BK255) NB255_0.out (by simp))
                  have n3_ := Aside0.mk (KeepBut.trans (by repeat (first | (with_reducible first | exact HK.out | apply KeepBut.set_ | apply keep_drewN | apply keep_drew | apply keep_alloc | refine keep_far ?_ GW252.out _ | refine keep_far ?_ GW255.out _) | exact HK.out)) hk (.inl rfl))
                  have n4_ := Aside0.mk (hb)
                  have n5_ := Aside0.mk (hi)
                  clear HO_256001
                  clear BK252
                  clear BK255
                  clear HK
                  clear HB
                  clear HI0
                  have HO_256001 := n0_
                  have BK252 := n1_
                  have BK255 := n2_
                  have HK := n3_
                  have HB := n4_
                  have HI0 := n5_
                  clear n0_ n1_ n2_ n3_ n4_ n5_
                  (try clear hb)
                  (try clear hb2)
                  (try clear hk)
                  (try clear hi)
                  refine hK.out _ _ ⟨(blk_cell BK255.out 0).trans rfl, (blk_cell BK255.out 1).trans rfl⟩ (fun hHeld => ?_)
                  clear hK K
                  refine norm_ (a' := ?_) ?_ ?_
                  rotate_left
                  ·show Act.put _ (some 96) _ = _
                   simp only [Act.put, List.setIfInBounds_toArray, List.set_cons_zero, List.set_cons_succ, i64_w, i32_w]
                   rfl
                  refine one_ (i := 2) (N := some 94) (bz 12 31) rfl rfl (one_of HT_.out (by kernel_rfl)) (by decide) (fun K hK => ?_)
                  refine Kd.R_lit_step (Kd.int .i64) _ 3 ?hg (N := 94) ?hd (xs := ([0, 1000] : List Int)) (inner := [.int .i64 0, .int .i64 1000]) (ok := fun _ => True) (okp := fun _ => True) ?hr ?hp (fun _ hk => by first | exact hk | grind) trivial (Below.refl _ _) (Nat.le_refl _) (by simp) ?_; (case hd => rfl); (case hg => rfl); (case hr => first | (go_simp; done) | (go_simp; rfl)); (case hp => exact (Reps.one (show Kd.M (Kd.int .i64) _ _ _ 0 [.int .i64 0] from rfl) (Reps.one (show Kd.M (Kd.int .i64) _ _ _ 1000 [.int .i64 1000] from rfl) (Reps.none _ _))))
                  intro v288 w96 ho97 hb hg_ hnew_
                  clear hg_ hnew_
                  (first | rw [← Ny287.out] at ho97 | (simp only [Int.reduceToNat] at ho97; rw [← Ny287.out] at ho97))
                  have n0_ := rB HO_256001 hb
                  have n1_ := Aside0.mk (Kd.R_lower ho97 (keep_size (w := w) (g := g) (row := none) (by repeat (first | (with_reducible first | exact HK.out | apply KeepBut.set_ | apply keep_drewN | apply keep_drew | apply keep_alloc | refine keep_far ?_ GW252.out _ | refine keep_far ?_ GW255.out _) | exact HK.out))))
                  have n2_ := bkB BK252 hb
                  have n3_ := bkB BK255 hb
                  have n4_ := Aside0.mk (IsS127.below (by repeat (first | (with_reducible first | exact HI0.out | apply IsS127.alloc | apply IsS127.drewN | apply IsS127.drew | apply IsS127.set_1 | refine IsS127.far ?_ NB0_252.out _ | refine IsS127.far ?_ NB0_255.out _) | exact HI0.out)) hb)
                  have n5_ := Aside0.mk (KeepBut.trans (by repeat (first | (with_reducible first | exact HK.out | apply KeepBut.set_ | apply keep_drewN | apply keep_drew | apply keep_alloc | refine keep_far ?_ GW252.out _ | refine keep_far ?_ GW255.out _) | exact HK.out)) (KeepBut.of_below hb g none) (.inl rfl))
                  have n6_ := Aside0.mk (below_step (by repeat (first | (with_reducible first | exact HB.out | apply below_alloc | apply pw_below_drewN | apply below_drew1 | refine below_set ?_ (IsS127.ge HI0.out) | refine below_set ?_ GE252.out | refine below_set ?_ GE255.out) | exact HB.out)) hb)
                  clear HO_256001
                  clear BK252
                  clear BK255
                  clear HI0
                  clear HK
                  clear HB
                  have HO_256001 := n0_
                  have HO289 := n1_
                  have BK252 := n2_
                  have BK255 := n3_
                  have HI0 := n4_
                  have HK := n5_
                  have HB := n6_
                  clear n0_ n1_ n2_ n3_ n4_ n5_ n6_
                  clear hb ho97
                  obtain ⟨Ao98, co98, eo98⟩ := Kd.R_slice HO289.out
                  subst eo98
                  obtain ⟨ado98, fo98, _⟩ := Kd.at_int (Kd.R_reads' HO289.out).2.2 0 (by decide) (by rw [Ny287.out]; simp)
                  cases fo98
                  refine hK.out _ _ ⟨(blk_cell BK255.out 0).trans rfl, (blk_cell BK255.out 1).trans rfl⟩ (fun hHeld => ?_)
                  clear hK K
                  refine norm_ (a' := ?_) ?_ ?_
                  rotate_left
                  ·show Act.put _ (some 94) _ = _
                   simp only [Act.put, List.setIfInBounds_toArray, List.set_cons_zero, List.set_cons_succ, i64_w, i32_w]
                   rfl
                  exact norm_ (by simp only [putAll, Act.put, List.setIfInBounds_toArray, List.set_cons_zero, List.set_cons_succ]) (hCont (.slice (some ado98) y287.length co98, ado98) _ ⟨hHeld, (rk HO289), (rk HO_256001), ⟨_, rfl⟩, (bk BK252), (bk BK255), (by repeat (first | (with_reducible first | exact HI0.out | apply IsS127.alloc | apply IsS127.drewN | apply IsS127.drew | apply IsS127.set_1 | refine IsS127.far ?_ NB0_252.out _ | refine IsS127.far ?_ NB0_255.out _) | exact HI0.out)), (by repeat (first | (with_reducible first | exact HK.out | apply KeepBut.set_ | apply keep_drewN | apply keep_drew | apply keep_alloc | refine keep_far ?_ GW252.out _ | refine keep_far ?_ GW255.out _) | exact HK.out)), (by repeat (first | (with_reducible first | exact HB.out | apply below_alloc | apply pw_below_drewN | apply below_drew1 | refine below_set ?_ (IsS127.ge HI0.out) | refine below_set ?_ GE252.out | refine below_set ?_ GE255.out) | exact HB.out))⟩)
                rintro ⟨v288, adz_v288⟩ w99 ⟨hS_, h0_, h1_, h2_, h3_, h4_, h5_, h6_, h7_⟩
                have n0_ : Aside0 (Kd.R (Kd.int .i64) 3 w99 w.heap.size (fun _ => True) v288 y287) := ⟨h0_⟩
                have n1_ : Aside0 (Kd.R k42 42 w99 w.heap.size (fun _ => True) (.slice Ao93 x256001_2.length co93) x256001_2) := ⟨h1_⟩
                have n2_ : Aside0 (∃ c_, (v288 : Value) = .slice (some adz_v288) y287.length c_) := ⟨h2_⟩
                have n3_ : Aside0 (w99.heap[gb252]? = some (.cells #[.int .i64 0, .slice none 0 0] 40 (0, 0))) := ⟨h3_⟩
                have n4_ : Aside0 (w99.heap[gb255]? = some (.cells #[.int .i64 x256000_4, .slice Ao93 x256001_2.length co93] 40 (0, 0))) := ⟨h4_⟩
                have n5_ : Aside0 (IsS127 w0 w99 g s0_0 t291) := ⟨h5_⟩
                have n6_ : Aside0 (KeepBut w w99 g none) := ⟨h6_⟩
                have n7_ : Aside0 (Below w0.heap.size w0 w99) := ⟨h7_⟩
                clear HO_256001
                clear BK252
                clear BK255
                clear HI0
                clear HK
                clear HB
                clear h0_ h1_ h2_ h3_ h4_ h5_ h6_ h7_
                have HO289 := n0_
                have HO_256001 := n1_
                have HA_HO289 := n2_
                have BK252 := n3_
                have BK255 := n4_
                have HI0 := n5_
                have HK := n6_
                have HB := n7_
                clear n0_ n1_ n2_ n3_ n4_ n5_ n6_ n7_
                have hHeld : w99.cell? ⟨gb255, 0, none⟩ = some (.int .i64 x256000_4) ∧ w99.cell? ⟨gb255, 1, none⟩ = some (.slice Ao93 x256001_2.length co93) := hS_
                obtain ⟨co100, eo100⟩ := HA_HO289.out
                clear HA_HO289
                subst eo100
                refine norm_ (a' := ?_) ?_ ?_
                rotate_left
                ·simp only [putAll, Act.put, List.setIfInBounds_toArray, List.set_cons_zero, List.set_cons_succ]
                 rfl
                refine pure_ (i := 5) (N := some 97) (v := ?_) (a' := ?_) (bz 12 63) rfl rfl (any_of HT_.out (by kernel_rfl)) (fun _ _ _ h => h) (Or.inl ⟨by rfl, ?_⟩) ?_ ?_
                rotate_left
                ·intro w'
                 go_simp
                 with_reducible rfl
                rotate_left
                ·simp only [Act.put, List.setIfInBounds_toArray, List.set_cons_zero, List.set_cons_succ, i64_w, i32_w]
                 rfl
                refine one_ (i := 6) (N := some 98) (bz 12 127) rfl rfl (one_of HT_.out (by kernel_rfl)) (by decide) (fun K hK => ?_)
                (have p292 : 0 ≤ (t290 : Int) := of_decide_eq_true (by first | (with_reducible assumption) | assumption); have q292 : t290 < (y287.length : Int) := of_decide_eq_true (by first | (with_reducible assumption) | assumption); obtain ⟨ad292, e292, hx292_0⟩ := Kd.at_int (Kd.R_reads' HO289.out).2.2 t290 p292 q292; obtain rfl : adz_v288 = ad292 := (by injection e292))
                refine value_ (w1 := ?_) (v := ?_) (by rfl) rfl ?_ ?_
                rotate_left 2
                ·go_simp
                 constructor
                 ·rfl
                 ·rfl
                clear hx292_0
                refine hK.out _ _ ⟨(blk_cell BK255.out 0).trans rfl, (blk_cell BK255.out 1).trans rfl⟩ (fun hHeld => ?_)
                clear hK K
                refine norm_ (a' := ?_) ?_ ?_
                rotate_left
                ·show Act.put _ (some 98) _ = _
                 simp only [Act.put, List.setIfInBounds_toArray, List.set_cons_zero, List.set_cons_succ, i64_w, i32_w]
                 rfl
                refine pure_ (i := 7) (N := some 99) (v := ?_) (a' := ?_) (bz 12 255) rfl rfl (any_of HT_.out (by kernel_rfl)) (fun _ _ _ h => h) (Or.inl ⟨by rfl, ?_⟩) ?_ ?_
                rotate_left
                ·intro w'
                 go_simp
                 with_reducible rfl
                rotate_left
                ·simp only [Act.put, List.setIfInBounds_toArray, List.set_cons_zero, List.set_cons_succ, i64_w, i32_w]
                 rfl
                refine one_ (i := 8) (N := some 100) (bz 12 511) rfl rfl (one_of HT_.out (by kernel_rfl)) (by decide) (fun K hK => ?_)
                refine value_ (w1 := ?_) (v := ?_) (by rfl) rfl ?_ ?_
                rotate_left 2
                ·go_simp
                 constructor
                 ·rfl
                 ·rfl
                refine hK.out _ _ ⟨(blk_cell (blk_alloc BK255.out _) 0).trans rfl, (blk_cell (blk_alloc BK255.out _) 1).trans rfl⟩ (fun hHeld => ?_)
                clear hK K
                refine norm_ (a' := ?_) ?_ ?_
                rotate_left
                ·show Act.put _ (some 100) _ = _
                 simp only [Act.put, List.setIfInBounds_toArray, List.set_cons_zero, List.set_cons_succ, i64_w, i32_w]
                 rfl
                refine one_ (i := 9) (N := some 101) (bz 12 1023) rfl rfl (one_of HT_.out (by kernel_rfl)) (by decide) (fun K hK => ?_)
                refine Kd.R_append_step k42 w.heap.size (by rfl) (.tmp 93) (.tmp 100) 38 42 (.agg #[(.int .i64 0), (.int .i64 0), (.int .i64 0)]) 24 rfl Tryd.underlying38 info42 rfl (by decide) (by omega) (.slice Ao93 x256001_2.length co93) x256001_2 (⟨0, 1, rd y287 t290⟩ : S42) [.int .i64 0, .int .i64 1, .int .i64 (rd y287 t290)] (fun _ => True) (fun _ => False) rfl rfl ?aP (fun _ hk => by first | exact hk.elim | grind) ?aF ?aO (Below.refl _ _) ?aS ?aL ?_
                (case aP => exact k42_mkM _ _ _ (⟨0, 1, rd y287 t290⟩ : S42))
                (case aF => exact (fun _ _ => trivial))
                (case aO => exact (rk HO_256001))
                (case aS => exact (keep_size (w := w) (g := g) (row := none) (by repeat (first | (with_reducible first | exact HK.out | apply KeepBut.set_ | apply keep_drewN | apply keep_drew | apply keep_alloc | refine keep_far ?_ GW252.out _ | refine keep_far ?_ GW255.out _) | exact HK.out))))
                (case aL => have := LMc90.out; omega)
                intro v294 w101 ho hb hg hat
                rw [← Ny293.out] at ho
                have n0_ := Aside0.mk (blk_grown (g := gb252) (o := .cells #[.int .i64 0, .slice none 0 0] 40 (0, 0)) (bk BK252) hg (Kd.R_ne HO_256001.out BK252.out (by decide)))
                have n1_ := Aside0.mk (blk_grown (g := gb255) (o := .cells #[.int .i64 x256000_4, .slice Ao93 x256001_2.length co93] 40 (0, 0)) (bk BK255) hg (Kd.R_ne HO_256001.out BK255.out (by decide)))
                have n2_ := Aside0.mk (IsS127.grown (by repeat (first | (with_reducible first | exact HI0.out | apply IsS127.alloc | apply IsS127.drewN | apply IsS127.drew | apply IsS127.set_1 | refine IsS127.far ?_ NB0_252.out _ | refine IsS127.far ?_ NB0_255.out _) | exact HI0.out)) hg (IsS127.own_ne HI0.out HO_256001.out (by decide)))
                have n3_ := Aside0.mk (Kd.R_over' (rk HO289) (Kd.R_typed (rk HO_256001)) (by decide) hg)
                have n4_ := Aside0.mk (below_weaken (by repeat (first | (with_reducible first | exact HB.out | apply below_alloc | apply pw_below_drewN | apply below_drew1 | refine below_set ?_ (IsS127.ge HI0.out) | refine below_set ?_ GE252.out | refine below_set ?_ GE255.out) | exact HB.out)) HL.out hb)
                have n5_ := Aside0.mk (KeepBut.trans (by repeat (first | (with_reducible first | exact HK.out | apply KeepBut.set_ | apply keep_drewN | apply keep_drew | apply keep_alloc | refine keep_far ?_ GW252.out _ | refine keep_far ?_ GW255.out _) | exact HK.out)) (KeepBut.of_grown hg g) (Kd.R_base2 HO_256001.out))
                have n6_ := Aside0.mk (ho)
                clear BK252
                clear BK255
                clear HI0
                clear HO289
                clear HB
                clear HK
                clear HO_256001
                have BK252 := n0_
                have BK255 := n1_
                have HI0 := n2_
                have HO289 := n3_
                have HB := n4_
                have HK := n5_
                have HO295 := n6_
                clear n0_ n1_ n2_ n3_ n4_ n5_ n6_
                clear ho hb hg hat
                obtain ⟨Ao102, co102, eo102⟩ := Kd.R_slice HO295.out
                (first | subst eo102 | (injection eo102 with f1_ f2_ f3_; have f4_ := f1_.symm; have f5_ := f3_.symm; clear f1_ f2_ f3_; subst f4_; subst f5_))
                refine hK.out _ _ ⟨(blk_cell BK255.out 0).trans rfl, (blk_cell BK255.out 1).trans rfl⟩ (fun hHeld => ?_)
                clear hK K
                refine norm_ (a' := ?_) ?_ ?_
                rotate_left
                ·show Act.put _ (some 101) _ = _
                 simp only [Act.put, List.setIfInBounds_toArray, List.set_cons_zero, List.set_cons_succ, i64_w, i32_w]
                 rfl
                refine pure_ (i := 10) (N := some 102) (v := ?_) (a' := ?_) (bz 12 2047) rfl rfl (any_of HT_.out (by kernel_rfl)) (fun _ _ _ h => h) (Or.inl ⟨by rfl, ?_⟩) ?_ ?_
                rotate_left
                ·intro w'
                 go_simp
                 with_reducible rfl
                rotate_left
                ·simp only [Act.put, List.setIfInBounds_toArray, List.set_cons_zero, List.set_cons_succ, i64_w, i32_w]
                 rfl
                refine last_ (i := 11) (N := none) (bz 12 4095) rfl rfl (one_of HT_.out (by kernel_rfl)) (by decide) (fun K hK => ?_)
                have hs103 : w101.cell? ⟨gb255, 1, none⟩ = some (.slice Ao93 x256001_2.length co93) := (blk_cell BK255.out 1).trans rfl
                have hfs103 := blk_frozen BK255.out 1
                have hns103_0 := NB252_255.out
                have hms103_0 := NB255_252.out
                refine skip_ (w1 := ?_) (by rfl) rfl ?_ ?_
                rotate_left
                ·go_simp
                 rfl
                refine hK.out _ _ ?_
                clear hK K
                refine done_ (done_of HT_.out (by kernel_rfl)) ?_
                have hnb104 := NB255_252.out
                have hnc104 := NB252_255.out
                have hnb105 := NB255_0.out
                have hnc105 := NB0_255.out
                have hcz106_0 : w101.cell? ⟨gb255, 0, none⟩ = some (.int .i64 x256000_4) := (blk_cell BK255.out 0).trans rfl
                have hcz106_1 : w101.cell? ⟨gb255, 1, none⟩ = some (.slice Ao93 x256001_2.length co93) := (blk_cell BK255.out 1).trans rfl
                have hfz106_0 := blk_frozen BK255.out 0
                have hfz106_1 := blk_frozen BK255.out 1
                have hnb107 := NB252_0.out
                have hnc107 := NB0_252.out
                have hcz108_0 : w101.cell? ⟨gb252, 0, none⟩ = some (.int .i64 0) := (blk_cell BK252.out 0).trans rfl
                have hcz108_1 : w101.cell? ⟨gb252, 1, none⟩ = some (.slice none 0 0) := (blk_cell BK252.out 1).trans rfl
                have hfz108_0 := blk_frozen BK252.out 0
                have hfz108_1 := blk_frozen BK252.out 1
                try go_wp2
                refine bodyPost_ret (results_cell_row rfl _ _ gb252 40 #[.int .i64 x256000_4, .slice Ao102 y293.length co102] (0, 0) _ rfl (by (with_reducible repeat (first | refine blk_drewN ?_ _ | refine blk_drew ?_ | refine blk_alloc ?_ _)); refine blk_put (cs := #[.int .i64 x256000_4, .slice none 0 0]) ?_ 1 _ rfl; (with_reducible repeat (first | refine blk_drewN ?_ _ | refine blk_drew ?_ | refine blk_alloc ?_ _)); refine blk_put (cs := #[.int .i64 0, .slice none 0 0]) ?_ 0 _ rfl; (with_reducible repeat (first | refine blk_drewN ?_ _ | refine blk_drew ?_ | refine blk_alloc ?_ _)); refine blk_far ?_ NB252_255.out _; (with_reducible repeat (first | refine blk_drewN ?_ _ | refine blk_drew ?_ | refine blk_alloc ?_ _)); exact BK252.out) Tryd.underlying40 rfl (by kernel_rfl)) rfl ?_
                exact ⟨_, by first | rfl | (simp [errW_none, errW_some] <;> rfl) | (simp [*, errW_none, errW_some] <;> rfl), by (with_reducible repeat (first | apply Kd.R_alloc | apply Kd.R_drewN | apply Kd.R_drew)); exact Kd.R_mono (Kd.R_far (p := ⟨gb252, 1, none⟩) (Kd.R_far (p := ⟨gb252, 0, none⟩) (Kd.R_far (p := ⟨gb255, 1, none⟩) (Kd.R_types (Kd.R_types HO295.out BK255.out (by decide)) BK252.out (by decide)) (fun _ hk => by first | exact hk.1.2 | grind) (.slice Ao102 y293.length co102)) (fun _ hk => by first | exact hk.2 | grind) (.int .i64 x256000_4)) (fun _ hk => by first | exact hk.2 | grind) (.slice Ao102 y293.length co102)) (fun _ hk => trivial), by repeat (first | (with_reducible first | exact HI0.out | apply IsS127.alloc | apply IsS127.drewN | apply IsS127.drew | apply IsS127.set_1 | refine IsS127.far ?_ NB0_252.out _ | refine IsS127.far ?_ NB0_255.out _) | exact HI0.out), by repeat (first | (with_reducible first | exact HB.out | apply below_alloc | apply pw_below_drewN | apply below_drew1 | refine below_set ?_ (IsS127.ge HI0.out) | refine below_set ?_ GE252.out | refine below_set ?_ GE255.out) | exact HB.out), by repeat (first | (with_reducible first | exact HK.out | apply KeepBut.set_ | apply keep_drewN | apply keep_drew | apply keep_alloc | refine keep_far ?_ GW252.out _ | refine keep_far ?_ GW255.out _) | exact HK.out)⟩
               ·rw [if_neg c90] at H
                exact absurd H (by simp)
              ·rw [if_neg c89] at H
               exact absurd H (by simp)
             ·rw [if_neg c88] at H
              exact absurd H (by simp)
            ·rw [if_neg c86] at H
             have c86b0 : (t273 == 3) = false := beq_eq_false_iff_ne.mpr c86
             have c86b1 : (t273 != 3) = true := bne_iff_ne.mpr c86
             by_cases c109 : 11 ≤ 11728124029610
             ·rw [if_pos c109] at H
              have c109b0 := eq_true c109
              have c109b1 : decide (11 ≤ 11728124029610) = true := decide_eq_true c109
              clear c109
              obtain ⟨y296, hy296⟩ : ∃ y_ : List (S42), y_ = (List.replicate 11 z42) := ⟨_, rfl⟩
              replace H : (some (x256000_4, y296, t274)) = some (r1, r2, r3) := by first | (rw [hy296]; with_reducible exact H) | (have H2_ := (Option.bind_some _ _).symm.trans H; rw [hy296]; with_reducible exact H2_) | (have H2_ := (Option.bind_some _ _).symm.trans H; with_reducible exact H2_) | with_reducible exact H | (rw [hy296]; exact H) | exact H
              have Ny296 := Aside0.mk hy296
              clear hy296
              simp only [Option.some.injEq, Prod.mk.injEq] at H
              obtain ⟨rfl, rfl, rfl⟩ := H
              have TK0_ := Aside0.mk trivial; have TK1_ := Aside0.mk trivial; have TK2_ := Aside0.mk trivial
              go_wp2_with (first | (clear TK0_; (with_reducible refine gate_callee (f := 50) rfl ?_); refine goesL_ (some 59) rfl rfl Tryd.func50 (by kernel_rfl) rfl #[.pointer (some ⟨g, 0, none⟩), .int .i64 a1] rfl (by (try simp only [List.map_toArray, List.map_cons, List.map_nil]); first | done | rfl | (simp only [List.length_drop, List.length_take]; rfl)) ?_; (with_reducible refine (spec_l20Rd_odd.calls kj20 g s0_0 x1001_2 a1 true t272 w0 _ ?side1 ?side2 A43.out).mono ?_); (case side1 => repeat (first | (with_reducible first | exact HI0.out | apply IsS127.alloc | apply IsS127.drewN | apply IsS127.drew | apply IsS127.set_1 | refine IsS127.far ?_ NB0_252.out _ | refine IsS127.far ?_ NB0_255.out _) | exact HI0.out)); (case side2 => repeat (first | (with_reducible first | exact HB.out | apply below_alloc | apply pw_below_drewN | apply below_drew1 | refine below_set ?_ (IsS127.ge HI0.out) | refine below_set ?_ GE252.out | refine below_set ?_ GE255.out) | exact HB.out)); rintro e w110 ⟨rfl, hi, hb, hk⟩; refine ⟨_, rfl, ?_⟩; have n0_ := Aside0.mk (Kd.R_mono (Kd.R_keep (IsS127.apart (show IsS127 w0 _ g s0_0 x1001_2 from by repeat (first | (with_reducible first | exact HI0.out | apply IsS127.alloc | apply IsS127.drewN | apply IsS127.drew | apply IsS127.set_1 | refine IsS127.far ?_ NB0_252.out _ | refine IsS127.far ?_ NB0_255.out _) | exact HI0.out)) (rk HO_256001) (by decide)) hk (fun _ h => h.2)) (fun _ h => h.1)); have n1_ := Aside0.mk (KeepBut.blk hk (g' := gb252) (o := .cells #[.int .i64 0, .slice none 0 0] 40 (0, 0)) (bk BK252) NB252_0.out (by simp)); have n2_ := Aside0.mk (KeepBut.blk hk (g' := gb255) (o := .cells #[.int .i64 x256000_4, u256001] 40 (0, 0)) (bk BK255) NB255_0.out (by simp)); have n3_ := Aside0.mk (KeepBut.trans (by repeat (first | (with_reducible first | exact HK.out | apply KeepBut.set_ | apply keep_drewN | apply keep_drew | apply keep_alloc | refine keep_far ?_ GW252.out _ | refine keep_far ?_ GW255.out _) | exact HK.out)) hk (.inl rfl)); have n4_ := Aside0.mk (hb); have n5_ := Aside0.mk (hi); clear HO_256001 BK252 BK255 HK HB HI0; have HO_256001 := n0_; have BK252 := n1_; have BK255 := n2_; have HK := n3_; have HB := n4_; have HI0 := n5_; clear n0_ n1_ n2_ n3_ n4_ n5_; (try clear hb); (try clear hb2); (try clear hk); (try clear hi)) | (clear TK1_; (with_reducible refine gate_callee (f := 60) rfl ?_); refine goesL_ (some 61) rfl rfl Tryd.func60 (by kernel_rfl) rfl #[.pointer (some ⟨g, 0, none⟩), .int .i64 5] rfl (by (try simp only [List.map_toArray, List.map_cons, List.map_nil]); first | done | rfl | (simp only [List.length_drop, List.length_take]; rfl)) ?_; (with_reducible refine (spec_l20Rd_pick.calls kj20 g s0_0 t272 5 t273 t274 w0 _ ?side1 ?side2 A45.out).mono ?_); (case side1 => repeat (first | (with_reducible first | exact HI0.out | apply IsS127.alloc | apply IsS127.drewN | apply IsS127.drew | apply IsS127.set_1 | refine IsS127.far ?_ NB0_252.out _ | refine IsS127.far ?_ NB0_255.out _) | exact HI0.out)); (case side2 => repeat (first | (with_reducible first | exact HB.out | apply below_alloc | apply pw_below_drewN | apply below_drew1 | refine below_set ?_ (IsS127.ge HI0.out) | refine below_set ?_ GE252.out | refine below_set ?_ GE255.out) | exact HB.out)); rintro e w111 ⟨rfl, hi, hb, hk⟩; refine ⟨_, rfl, ?_⟩; have n0_ := Aside0.mk (Kd.R_mono (Kd.R_keep (IsS127.apart (show IsS127 w0 _ g s0_0 t272 from by repeat (first | (with_reducible first | exact HI0.out | apply IsS127.alloc | apply IsS127.drewN | apply IsS127.drew | apply IsS127.set_1 | refine IsS127.far ?_ NB0_252.out _ | refine IsS127.far ?_ NB0_255.out _) | exact HI0.out)) (rk HO_256001) (by decide)) hk (fun _ h => h.2)) (fun _ h => h.1)); have n1_ := Aside0.mk (KeepBut.blk hk (g' := gb252) (o := .cells #[.int .i64 0, .slice none 0 0] 40 (0, 0)) (bk BK252) NB252_0.out (by simp)); have n2_ := Aside0.mk (KeepBut.blk hk (g' := gb255) (o := .cells #[.int .i64 x256000_4, u256001] 40 (0, 0)) (bk BK255) NB255_0.out (by simp)); have n3_ := Aside0.mk (KeepBut.trans (by repeat (first | (with_reducible first | exact HK.out | apply KeepBut.set_ | apply keep_drewN | apply keep_drew | apply keep_alloc | refine keep_far ?_ GW252.out _ | refine keep_far ?_ GW255.out _) | exact HK.out)) hk (.inl rfl)); have n4_ := Aside0.mk (hb); have n5_ := Aside0.mk (hi); clear HO_256001 BK252 BK255 HK HB HI0; have HO_256001 := n0_; have BK252 := n1_; have BK255 := n2_; have HK := n3_; have HB := n4_; have HI0 := n5_; clear n0_ n1_ n2_ n3_ n4_ n5_; (try clear hb); (try clear hb2); (try clear hk); (try clear hi)) | (clear TK2_; (with_reducible refine gate_dst (N := 62) rfl ?_); refine Kd.R_make k42 _ 42 rfl (N := 62) rfl 38 _ _ rfl 11 rfl rfl Tryd.underlying38 (.agg #[(.int .i64 0), (.int .i64 0), (.int .i64 0)]) 24 info42 rfl (by decide) (by omega) z42 (ok := fun _ => True) (okp := fun _ => True) (k42_mkM _ _ _ z42 ) (fun _ hk => by first | exact hk | grind) trivial (by omega) (by omega) (Below.refl _ _) (Nat.le_refl _) ?_; intro v297 w112 ho113 hb hg_ hnew_; clear hg_ hnew_; (first | rw [← Ny296.out] at ho113 | (simp only [Int.reduceToNat] at ho113; rw [← Ny296.out] at ho113)); have n0_ := Aside0.mk (Kd.R_elder' (rk HO_256001) (Kd.R_base ho113) hb); have n1_ := Aside0.mk (Kd.R_lower (Kd.R_new' ho113 (Kd.R_lt (rk HO_256001))) (keep_size (w := w) (g := g) (row := none) (by repeat (first | (with_reducible first | exact HK.out | apply KeepBut.set_ | apply keep_drewN | apply keep_drew | apply keep_alloc | refine keep_far ?_ GW252.out _ | refine keep_far ?_ GW255.out _) | exact HK.out)))); have n2_ := bkB BK252 hb; have n3_ := bkB BK255 hb; have n4_ := Aside0.mk (IsS127.below (by repeat (first | (with_reducible first | exact HI0.out | apply IsS127.alloc | apply IsS127.drewN | apply IsS127.drew | apply IsS127.set_1 | refine IsS127.far ?_ NB0_252.out _ | refine IsS127.far ?_ NB0_255.out _) | exact HI0.out)) hb); have n5_ := Aside0.mk (KeepBut.trans (by repeat (first | (with_reducible first | exact HK.out | apply KeepBut.set_ | apply keep_drewN | apply keep_drew | apply keep_alloc | refine keep_far ?_ GW252.out _ | refine keep_far ?_ GW255.out _) | exact HK.out)) (KeepBut.of_below hb g none) (.inl rfl)); have n6_ := Aside0.mk (below_step (by repeat (first | (with_reducible first | exact HB.out | apply below_alloc | apply pw_below_drewN | apply below_drew1 | refine below_set ?_ (IsS127.ge HI0.out) | refine below_set ?_ GE252.out | refine below_set ?_ GE255.out) | exact HB.out)) hb); clear HO_256001 BK252 BK255 HI0 HK HB; have HO_256001 := n0_; have HO298 := n1_; have BK252 := n2_; have BK255 := n3_; have HI0 := n4_; have HK := n5_; have HB := n6_; clear n0_ n1_ n2_ n3_ n4_ n5_ n6_; clear hb ho113; obtain ⟨Ao114, co114, eo114⟩ := Kd.R_slice HO298.out; subst eo114; have hnb115 := NB255_252.out; have hnc115 := NB252_255.out; have hnb116 := NB255_0.out; have hnc116 := NB0_255.out; have hcz117_0 : w112.cell? ⟨gb255, 0, none⟩ = some (.int .i64 x256000_4) := (blk_cell BK255.out 0).trans rfl; have hcz117_1 : w112.cell? ⟨gb255, 1, none⟩ = some (u256001) := (blk_cell BK255.out 1).trans rfl; have hfz117_0 := blk_frozen BK255.out 0; have hfz117_1 := blk_frozen BK255.out 1; have hnb118 := NB252_0.out; have hnc118 := NB0_252.out; have hcz119_0 : w112.cell? ⟨gb252, 0, none⟩ = some (.int .i64 0) := (blk_cell BK252.out 0).trans rfl; have hcz119_1 : w112.cell? ⟨gb252, 1, none⟩ = some (.slice none 0 0) := (blk_cell BK252.out 1).trans rfl; have hfz119_0 := blk_frozen BK252.out 0; have hfz119_1 := blk_frozen BK252.out 1))
              refine bodyPost_ret (results_cell_row rfl _ _ gb252 40 #[.int .i64 x256000_4, .slice Ao114 y296.length co114] (0, 0) _ rfl (by (with_reducible repeat (first | refine blk_drewN ?_ _ | refine blk_drew ?_ | refine blk_alloc ?_ _)); refine blk_put (cs := #[.int .i64 x256000_4, .slice none 0 0]) ?_ 1 _ rfl; (with_reducible repeat (first | refine blk_drewN ?_ _ | refine blk_drew ?_ | refine blk_alloc ?_ _)); refine blk_put (cs := #[.int .i64 0, .slice none 0 0]) ?_ 0 _ rfl; (with_reducible repeat (first | refine blk_drewN ?_ _ | refine blk_drew ?_ | refine blk_alloc ?_ _)); refine blk_far ?_ NB252_255.out _; (with_reducible repeat (first | refine blk_drewN ?_ _ | refine blk_drew ?_ | refine blk_alloc ?_ _)); exact BK252.out) Tryd.underlying40 rfl (by kernel_rfl)) rfl ?_
              exact ⟨_, by first | rfl | (simp [errW_none, errW_some] <;> rfl) | (simp [*, errW_none, errW_some] <;> rfl), by (with_reducible repeat (first | apply Kd.R_alloc | apply Kd.R_drewN | apply Kd.R_drew)); exact Kd.R_mono (Kd.R_far (p := ⟨gb252, 1, none⟩) (Kd.R_far (p := ⟨gb252, 0, none⟩) (Kd.R_far (p := ⟨gb255, 1, none⟩) (Kd.R_types (Kd.R_types HO298.out BK255.out (by decide)) BK252.out (by decide)) (fun _ hk => by first | exact hk.1.2 | grind) (.slice Ao114 y296.length co114)) (fun _ hk => by first | exact hk.2 | grind) (.int .i64 x256000_4)) (fun _ hk => by first | exact hk.2 | grind) (.slice Ao114 y296.length co114)) (fun _ hk => trivial), by repeat (first | (with_reducible first | exact HI0.out | apply IsS127.alloc | apply IsS127.drewN | apply IsS127.drew | apply IsS127.set_1 | refine IsS127.far ?_ NB0_252.out _ | refine IsS127.far ?_ NB0_255.out _) | exact HI0.out), by repeat (first | (with_reducible first | exact HB.out | apply below_alloc | apply pw_below_drewN | apply below_drew1 | refine below_set ?_ (IsS127.ge HI0.out) | refine below_set ?_ GE252.out | refine below_set ?_ GE255.out) | exact HB.out), by repeat (first | (with_reducible first | exact HK.out | apply KeepBut.set_ | apply keep_drewN | apply keep_drew | apply keep_alloc | refine keep_far ?_ GW252.out _ | refine keep_far ?_ GW255.out _) | exact HK.out)⟩
             ·rw [if_neg c109] at H
              exact absurd H (by simp)
        ·replace c44 := Bool.eq_false_iff.mpr c44
         subst c44
         have H1 : (some (x256000_4, x256001_2, t272)) = some (r1, r2, r3) := by rw [if_neg (show ¬ (false = true) by decide)] at H; exact H
         clear H
         have H := H1
         clear H1
         simp only [Option.some.injEq, Prod.mk.injEq] at H
         obtain ⟨rfl, rfl, rfl⟩ := H
         go_wp2_with (first | ((with_reducible refine gate_callee (f := 50) rfl ?_); refine goesL_ (some 59) rfl rfl Tryd.func50 (by kernel_rfl) rfl #[.pointer (some ⟨g, 0, none⟩), .int .i64 a1] rfl (by (try simp only [List.map_toArray, List.map_cons, List.map_nil]); first | done | rfl | (simp only [List.length_drop, List.length_take]; rfl)) ?_; (with_reducible refine (spec_l20Rd_odd.calls kj20 g s0_0 x1001_2 a1 false t272 w0 _ ?side1 ?side2 A43.out).mono ?_); (case side1 => repeat (first | (with_reducible first | exact HI0.out | apply IsS127.alloc | apply IsS127.drewN | apply IsS127.drew | apply IsS127.set_1 | refine IsS127.far ?_ NB0_252.out _ | refine IsS127.far ?_ NB0_255.out _) | exact HI0.out)); (case side2 => repeat (first | (with_reducible first | exact HB.out | apply below_alloc | apply pw_below_drewN | apply below_drew1 | refine below_set ?_ (IsS127.ge HI0.out) | refine below_set ?_ GE252.out | refine below_set ?_ GE255.out) | exact HB.out)); rintro e w120 ⟨rfl, hi, hb, hk⟩; refine ⟨_, rfl, ?_⟩; have n0_ := Aside0.mk (Kd.R_mono (Kd.R_keep (IsS127.apart (show IsS127 w0 _ g s0_0 x1001_2 from by repeat (first | (with_reducible first | exact HI0.out | apply IsS127.alloc | apply IsS127.drewN | apply IsS127.drew | apply IsS127.set_1 | refine IsS127.far ?_ NB0_252.out _ | refine IsS127.far ?_ NB0_255.out _) | exact HI0.out)) (rk HO_256001) (by decide)) hk (fun _ h => h.2)) (fun _ h => h.1)); have n1_ := Aside0.mk (KeepBut.blk hk (g' := gb252) (o := .cells #[.int .i64 0, .slice none 0 0] 40 (0, 0)) (bk BK252) NB252_0.out (by simp)); have n2_ := Aside0.mk (KeepBut.blk hk (g' := gb255) (o := .cells #[.int .i64 x256000_4, u256001] 40 (0, 0)) (bk BK255) NB255_0.out (by simp)); have n3_ := Aside0.mk (KeepBut.trans (by repeat (first | (with_reducible first | exact HK.out | apply KeepBut.set_ | apply keep_drewN | apply keep_drew | apply keep_alloc | refine keep_far ?_ GW252.out _ | refine keep_far ?_ GW255.out _) | exact HK.out)) hk (.inl rfl)); have n4_ := Aside0.mk (hb); have n5_ := Aside0.mk (hi); clear HO_256001 BK252 BK255 HK HB HI0; have HO_256001 := n0_; have BK252 := n1_; have BK255 := n2_; have HK := n3_; have HB := n4_; have HI0 := n5_; clear n0_ n1_ n2_ n3_ n4_ n5_; (try clear hb); (try clear hb2); (try clear hk); (try clear hi); have hnb121 := NB255_252.out; have hnc121 := NB252_255.out; have hnb122 := NB255_0.out; have hnc122 := NB0_255.out; have hcz123_0 : w120.cell? ⟨gb255, 0, none⟩ = some (.int .i64 x256000_4) := (blk_cell BK255.out 0).trans rfl; have hcz123_1 : w120.cell? ⟨gb255, 1, none⟩ = some (u256001) := (blk_cell BK255.out 1).trans rfl; have hfz123_0 := blk_frozen BK255.out 0; have hfz123_1 := blk_frozen BK255.out 1; have hnb124 := NB252_0.out; have hnc124 := NB0_252.out; have hcz125_0 : w120.cell? ⟨gb252, 0, none⟩ = some (.int .i64 0) := (blk_cell BK252.out 0).trans rfl; have hcz125_1 : w120.cell? ⟨gb252, 1, none⟩ = some (.slice none 0 0) := (blk_cell BK252.out 1).trans rfl; have hfz125_0 := blk_frozen BK252.out 0; have hfz125_1 := blk_frozen BK252.out 1; obtain ⟨Ao126, co126, eo126⟩ := Kd.R_slice HO_256001.out; subst eo126))
         refine bodyPost_ret (results_cell_row rfl _ _ gb252 40 #[.int .i64 x256000_4, .slice Ao126 x256001_2.length co126] (0, 0) _ rfl (by (with_reducible repeat (first | refine blk_drewN ?_ _ | refine blk_drew ?_ | refine blk_alloc ?_ _)); refine blk_put (cs := #[.int .i64 x256000_4, .slice none 0 0]) ?_ 1 _ rfl; (with_reducible repeat (first | refine blk_drewN ?_ _ | refine blk_drew ?_ | refine blk_alloc ?_ _)); refine blk_put (cs := #[.int .i64 0, .slice none 0 0]) ?_ 0 _ rfl; (with_reducible repeat (first | refine blk_drewN ?_ _ | refine blk_drew ?_ | refine blk_alloc ?_ _)); exact BK252.out) Tryd.underlying40 rfl (by kernel_rfl)) rfl ?_
         exact ⟨_, by first | rfl | (simp [errW_none, errW_some] <;> rfl) | (simp [*, errW_none, errW_some] <;> rfl), by (with_reducible repeat (first | apply Kd.R_alloc | apply Kd.R_drewN | apply Kd.R_drew)); exact Kd.R_mono (Kd.R_far (p := ⟨gb252, 1, none⟩) (Kd.R_far (p := ⟨gb252, 0, none⟩) (Kd.R_types HO_256001.out BK252.out (by decide)) (fun _ hk => by first | exact hk.2 | grind) (.int .i64 x256000_4)) (fun _ hk => by first | exact hk.2 | grind) (.slice Ao126 x256001_2.length co126)) (fun _ hk => trivial), by repeat (first | (with_reducible first | exact HI0.out | apply IsS127.alloc | apply IsS127.drewN | apply IsS127.drew | apply IsS127.set_1 | refine IsS127.far ?_ NB0_252.out _ | refine IsS127.far ?_ NB0_255.out _) | exact HI0.out), by repeat (first | (with_reducible first | exact HB.out | apply below_alloc | apply pw_below_drewN | apply below_drew1 | refine below_set ?_ (IsS127.ge HI0.out) | refine below_set ?_ GE252.out | refine below_set ?_ GE255.out) | exact HB.out), by repeat (first | (with_reducible first | exact HK.out | apply KeepBut.set_ | apply keep_drewN | apply keep_drew | apply keep_alloc | refine keep_far ?_ GW252.out _ | refine keep_far ?_ GW255.out _) | exact HK.out)⟩

end Go.Proofs.YtihmidnjiaomhaaDoor.G
