/- FnExactBayDo: for every input the law returns true, and each argument reads as it read before. No condition. -/
import Derived.Test.YtfdmoiaeclkdcaaRows
import Derived.Test.YtfdmoiaeclkdcaaGbx2
import Derived.Test.YtfdmoiaeclkdcaaOpen
import Derived.Test.YtfdmoiaeclkdcaaPureFnExactBayDo
import Derived.WalkKit
import Derived.ProofKit
import Derived.OpenShut
import Derived.ShutString
import Derived.ChangeOld
import Derived.Below
import Derived.SizedLaws
namespace Go.Proofs.Ytfdmoiaeclkdcaa.fnExactBayDo
open Go.ChangeShapes Go.WideShapes Go.ChangeAt Go.RowKit Go.Proofs.Ytfdmoiaeclkdcaa.Gb Go.Proofs.YtfdmoiaeclkdcaaW.PrintWords
open Go.ChangeMaps (open_string shut_string)
theorem own : ownKnob Try.prog.godebug = none := by kernel_rfl
theorem laidOut : laidOutB Try.prog = true := by kernel_rfl
set_option maxRecDepth 100000 in
theorem lifted (os : Os) (started : os.Started) (H : Type) (enc : TypeId × Value → H) :
    ReturnsInHanded {} Try.checked os 11 .any (Rows.fnExactBayDoSpec.pre6 enc Try.prog Try.f11 Rows.fnExactBayDoRow.domain false) (Rows.fnExactBayDoSpec.post enc Try.prog Try.f11 false true false false) := by
  refine returnsInHanded_of_change_sized (C := Try.checked) own started (by kernel_rfl) Try.func11
    (ChangeSpec.witness6 (enc := enc) (C := Try.checked) false ⟨#[], #[.agg #[.bool false, .bool false, .bool false, .bool false], .int .i64 0], []⟩ 8 (by kernel_rfl) (by kernel_rfl) (by kernel_rfl) (by kernel_rfl)) ?_
  intro W base args ds gs before hval0 hW hcnd _ _
  have hval : ∀ (j : Nat) t v, Try.f11.params[j]? = some t → args[j]? = some v → Value.okWide Try.prog W .any base t v := hval0
  have hW' := hW
  obtain ⟨p, q, hA0, hV, rfl, hfz, hnd⟩ := hW
  have hA : DataW.TrodAll enc Try.prog W 0 (fun _ => true) true Try.f11.params.toList args.toList ds p := hA0
  rw [Try.params11] at hA hval
  obtain ⟨v0, vs0, d0, ds0, p0, q0, hargs, rfl, rfl, h0, r0⟩ := trodAll_cons hA
  obtain ⟨v1, vs1, d1, ds1, p1, q1, rfl, rfl, rfl, h1, r1⟩ := trodAll_cons r0
  obtain ⟨rfl, rfl, rfl⟩ := trodAll_nil r1
  obtain rfl : args = #[v0, v1] := by cases args; simp_all
  obtain ⟨rfl, rfl⟩ := trodVars_none hV
  have lt0 : ∀ x ∈ p0, x.block < W.heap.size := by obtain ⟨m, hm⟩ := h0; exact DataW.trod_lt m _ _ _ hm
  have hv0 := hval 0 23 v0 rfl rfl
  have lt1 : ∀ x ∈ p1, x.block < W.heap.size := by obtain ⟨m, hm⟩ := h1; exact DataW.trod_lt m _ _ _ hm
  have hv1 := hval 1 3 v1 rfl rfl
  have k0 := h0
  obtain ⟨y0, ⟨_, _, hcs0, rfl, ⟨_, _, rfl, rfl, ⟨_, _, rfl, rfl, rfl⟩⟩⟩, g0⟩ := Op.opens_arg (Op.opens_tuple (kd := (Kd.pair Kd.bool (Kd.pair Kd.bool (Kd.pair Kd.bool Kd.bool)))) Try.underlying23 (by kernel_rfl) (Op.opensF_cons rfl (by kernel_rfl) (Op.opens_bool Try.underlying4) (Op.opensF_cons rfl (by kernel_rfl) (Op.opens_bool Try.underlying4) (Op.opensF_cons rfl (by kernel_rfl) (Op.opens_bool Try.underlying4) (Op.opensF_last rfl (by kernel_rfl) (Op.opens_bool Try.underlying4)))))) h0
  obtain rfl : v0 = .agg #[.bool y0.1, .bool y0.2.1, .bool y0.2.2.1, .bool y0.2.2.2] := Op.agg_of Try.underlying23 hv0 hcs0
  have k1 := h1
  obtain ⟨x1, rfl, _, _, w1⟩ := open_int Try.underlying3 hv1 h1
  have hk := Pure.FnExactBayDo (y0.1) (y0.2.1) (y0.2.2.1) (y0.2.2.2) x1 w1
  refine (laws_FnExactBayDo.calls y0.1 y0.2.1 y0.2.2.1 y0.2.2.2 x1 true W  hk).mono fun e W' ⟨he, bel0⟩ => ?_
  have bel : Below W.heap.size W W' := bel0
  subst he
  exact ⟨_, rfl, _, _, _, [], _, [], hW', trodAll_mk1 (shut_bool Try.underlying4 _), (trodAll_cons_mk (Below.trod laidOut (by kernel_rfl) (of_decide_eq_true (by kernel_rfl)) k0 bel lt0) (trodAll_cons_mk (Below.trod laidOut (by kernel_rfl) (of_decide_eq_true (by kernel_rfl)) k1 bel lt1) trodAll_mk0)), rfl, bel.frame _, fun h => by cases h⟩
theorem over : Rows.fnExactBayDoRow.holds Try.pinned (OpenSpec.ofChange Rows.fnExactBayDoSpec) :=
  OpenClaim.holds_of_wide 11 Try.f11 rfl rfl rfl rfl rfl rfl rfl ⟨rfl, rfl, rfl, rfl, rfl⟩ rfl rfl rfl rfl rfl (by kernel_rfl) Try.func11 (by kernel_rfl)
    (of_decide_eq_true (by kernel_rfl)) (by unfold Func.isWrapper; first | (rw [if_pos (by decide +kernel)]; kernel_rfl) | (rw [if_neg (by decide +kernel)]; exact ⟨rfl, rfl⟩))
    (fun os started H enc _ => lifted os started H enc)
end Go.Proofs.Ytfdmoiaeclkdcaa.fnExactBayDo
namespace Go.Proofs.Ytfdmoiaeclkdcaa
theorem fnExactBayDo_holds : Rows.FnExactBayDoSaid := fnExactBayDo.over
#print axioms fnExactBayDo_holds
end Go.Proofs.Ytfdmoiaeclkdcaa
