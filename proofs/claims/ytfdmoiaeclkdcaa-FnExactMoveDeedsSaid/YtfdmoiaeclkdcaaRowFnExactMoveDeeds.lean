/- FnExactMoveDeeds: for every input the law returns true, and each argument reads as it read before. No condition. -/
import Derived.Test.YtfdmoiaeclkdcaaRows
import Derived.Test.YtfdmoiaeclkdcaaGmx4
import Derived.Test.YtfdmoiaeclkdcaaOpen
import Derived.Test.YtfdmoiaeclkdcaaPureFnExactMoveDeeds
import Derived.WalkKit
import Derived.ProofKit
import Derived.OpenShut
import Derived.ShutString
import Derived.ChangeOld
import Derived.Below
import Derived.SizedLaws
namespace Go.Proofs.Ytfdmoiaeclkdcaa.fnExactMoveDeeds
open Go.ChangeShapes Go.WideShapes Go.ChangeAt Go.RowKit Go.Proofs.Ytfdmoiaeclkdcaa.Gm Go.Proofs.YtfdmoiaeclkdcaaW.PrintWords
open Go.ChangeMaps (open_string shut_string)
theorem own : ownKnob Try.prog.godebug = none := by kernel_rfl
theorem laidOut : laidOutB Try.prog = true := by kernel_rfl
set_option maxRecDepth 100000 in
theorem lifted (os : Os) (started : os.Started) (H : Type) (enc : TypeId × Value → H) :
    ReturnsInHanded {} Try.checked os 14 .any (Rows.fnExactMoveDeedsSpec.pre6 enc Try.prog Try.f14 Rows.fnExactMoveDeedsRow.domain false) (Rows.fnExactMoveDeedsSpec.post enc Try.prog Try.f14 false true false false) := by
  refine returnsInHanded_of_change_sized (C := Try.checked) own started (by kernel_rfl) Try.func14
    (ChangeSpec.witness6 (enc := enc) (C := Try.checked) false ⟨#[], #[.agg #[.slice none 0 0, .bool false], .int .i64 0, .int .i64 0], []⟩ 8 (by kernel_rfl) (by kernel_rfl) (by kernel_rfl) (by kernel_rfl)) ?_
  intro W base args ds gs before hval0 hW hcnd _ _
  have hval : ∀ (j : Nat) t v, Try.f14.params[j]? = some t → args[j]? = some v → Value.okWide Try.prog W .any base t v := hval0
  have hW' := hW
  obtain ⟨p, q, hA0, hV, rfl, hfz, hnd⟩ := hW
  have hA : DataW.TrodAll enc Try.prog W 0 (fun _ => true) true Try.f14.params.toList args.toList ds p := hA0
  rw [Try.params14] at hA hval
  obtain ⟨v0, vs0, d0, ds0, p0, q0, hargs, rfl, rfl, h0, r0⟩ := trodAll_cons hA
  obtain ⟨v1, vs1, d1, ds1, p1, q1, rfl, rfl, rfl, h1, r1⟩ := trodAll_cons r0
  obtain ⟨v2, vs2, d2, ds2, p2, q2, rfl, rfl, rfl, h2, r2⟩ := trodAll_cons r1
  obtain ⟨rfl, rfl, rfl⟩ := trodAll_nil r2
  obtain rfl : args = #[v0, v1, v2] := by cases args; simp_all
  obtain ⟨rfl, rfl⟩ := trodVars_none hV
  have lt0 : ∀ x ∈ p0, x.block < W.heap.size := by obtain ⟨m, hm⟩ := h0; exact DataW.trod_lt m _ _ _ hm
  have hv0 := hval 0 47 v0 rfl rfl
  have lt1 : ∀ x ∈ p1, x.block < W.heap.size := by obtain ⟨m, hm⟩ := h1; exact DataW.trod_lt m _ _ _ hm
  have hv1 := hval 1 3 v1 rfl rfl
  have lt2 : ∀ x ∈ p2, x.block < W.heap.size := by obtain ⟨m, hm⟩ := h2; exact DataW.trod_lt m _ _ _ hm
  have hv2 := hval 2 3 v2 rfl rfl
  have k0 := h0
  obtain ⟨y0, ⟨_, _, hcs0, ⟨A0_0, c0_0, rfl, hl0_0, hC0_0⟩, rfl⟩, g0⟩ := Op.opens_arg (Op.opens_tuple (kd := (Kd.pair (Kd.slice 3 (Kd.int .i64)) Kd.bool)) Try.underlying47 (by kernel_rfl) (Op.opensF_cons rfl (by kernel_rfl) (Op.opens_slice (kd := (Kd.int .i64)) Try.underlying45 (by kernel_rfl) (Op.opens_int Try.underlying3)) (Op.opensF_last rfl (by kernel_rfl) (Op.opens_bool Try.underlying4)))) h0
  obtain rfl : v0 = .agg #[.slice A0_0 (y0.1).length c0_0, .bool y0.2] := Op.agg_of Try.underlying47 hv0 hcs0
  have k1 := h1
  obtain ⟨x1, rfl, _, _, w1⟩ := open_int Try.underlying3 hv1 h1
  have k2 := h2
  obtain ⟨x2, rfl, _, _, w2⟩ := open_int Try.underlying3 hv2 h2
  obtain ⟨k, hk⟩ := Pure.FnExactMoveDeeds (y0.1) (y0.2) x1 x2 g0.1.1 (fun y hy => (g0.1.2 y hy)) w1 w2
  refine (laws_FnExactMoveDeeds.calls k A0_0 c0_0 (y0.1) y0.2 x1 x2 true W hC0_0 hl0_0 hk).mono fun e W' ⟨he, bel0⟩ => ?_
  have bel : Below W.heap.size W W' := bel0
  subst he
  exact ⟨_, rfl, _, _, _, [], _, [], hW', trodAll_mk1 (shut_bool Try.underlying4 _), (trodAll_cons_mk (Below.trod laidOut (by kernel_rfl) (of_decide_eq_true (by kernel_rfl)) k0 bel lt0) (trodAll_cons_mk (Below.trod laidOut (by kernel_rfl) (of_decide_eq_true (by kernel_rfl)) k1 bel lt1) (trodAll_cons_mk (Below.trod laidOut (by kernel_rfl) (of_decide_eq_true (by kernel_rfl)) k2 bel lt2) trodAll_mk0))), rfl, bel.frame _, fun h => by cases h⟩
theorem over : Rows.fnExactMoveDeedsRow.holds Try.pinned (OpenSpec.ofChange Rows.fnExactMoveDeedsSpec) :=
  OpenClaim.holds_of_wide 14 Try.f14 rfl rfl rfl rfl rfl rfl rfl ⟨rfl, rfl, rfl, rfl, rfl⟩ rfl rfl rfl rfl rfl (by kernel_rfl) Try.func14 (by kernel_rfl)
    (of_decide_eq_true (by kernel_rfl)) (by unfold Func.isWrapper; first | (rw [if_pos (by decide +kernel)]; kernel_rfl) | (rw [if_neg (by decide +kernel)]; exact ⟨rfl, rfl⟩))
    (fun os started H enc _ => lifted os started H enc)
end Go.Proofs.Ytfdmoiaeclkdcaa.fnExactMoveDeeds
namespace Go.Proofs.Ytfdmoiaeclkdcaa
theorem fnExactMoveDeeds_holds : Rows.FnExactMoveDeedsSaid := fnExactMoveDeeds.over
#print axioms fnExactMoveDeeds_holds
end Go.Proofs.Ytfdmoiaeclkdcaa
