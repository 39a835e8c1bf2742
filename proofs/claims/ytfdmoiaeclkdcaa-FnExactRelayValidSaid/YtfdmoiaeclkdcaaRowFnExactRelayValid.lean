/- FnExactRelayValid: for every input the law returns true, and each argument reads as it read before. No condition. -/
import Derived.Test.YtfdmoiaeclkdcaaRows
import Derived.Test.YtfdmoiaeclkdcaaPFnExactRelayValidx1
import Derived.Test.YtfdmoiaeclkdcaaOpen
import Derived.Test.YtfdmoiaeclkdcaaPureFnExactRelayValid
import Derived.WalkKit
import Derived.ProofKit
import Derived.OpenShut
import Derived.ShutString
import Derived.ChangeOld
import Derived.Below
import Derived.SizedLaws
namespace Go.Proofs.Ytfdmoiaeclkdcaa.fnExactRelayValid
open Go.ChangeShapes Go.WideShapes Go.ChangeAt Go.RowKit Go.Proofs.Ytfdmoiaeclkdcaa.PFnExactRelayValid Go.Proofs.YtfdmoiaeclkdcaaW.PrintWords
open Go.ChangeMaps (open_string shut_string)
theorem own : ownKnob Try.prog.godebug = none := by kernel_rfl
theorem laidOut : laidOutB Try.prog = true := by kernel_rfl
set_option maxRecDepth 100000 in
theorem lifted (os : Os) (started : os.Started) (H : Type) (enc : TypeId × Value → H) :
    ReturnsInHanded {} Try.checked os 4 .any (Rows.fnExactRelayValidSpec.pre6 enc Try.prog Try.f4 Rows.fnExactRelayValidRow.domain false) (Rows.fnExactRelayValidSpec.post enc Try.prog Try.f4 false true false false) := by
  refine returnsInHanded_of_change_sized (C := Try.checked) own started (by kernel_rfl) Try.func4
    (ChangeSpec.witness6 (enc := enc) (C := Try.checked) false ⟨#[], #[.agg #[.int .i64 0, .int .i64 0]], []⟩ 8 (by kernel_rfl) (by kernel_rfl) (by kernel_rfl) (by kernel_rfl)) ?_
  intro W base args ds gs before hval0 hW hcnd _ _
  have hval : ∀ (j : Nat) t v, Try.f4.params[j]? = some t → args[j]? = some v → Value.okWide Try.prog W .any base t v := hval0
  have hW' := hW
  obtain ⟨p, q, hA0, hV, rfl, hfz, hnd⟩ := hW
  have hA : DataW.TrodAll enc Try.prog W 0 (fun _ => true) true Try.f4.params.toList args.toList ds p := hA0
  rw [Try.params4] at hA hval
  obtain ⟨v0, vs0, d0, ds0, p0, q0, hargs, rfl, rfl, h0, r0⟩ := trodAll_cons hA
  obtain ⟨rfl, rfl, rfl⟩ := trodAll_nil r0
  obtain rfl : args = #[v0] := by cases args; simp_all
  obtain ⟨rfl, rfl⟩ := trodVars_none hV
  have lt0 : ∀ x ∈ p0, x.block < W.heap.size := by obtain ⟨m, hm⟩ := h0; exact DataW.trod_lt m _ _ _ hm
  have hv0 := hval 0 29 v0 rfl rfl
  have k0 := h0
  obtain ⟨y0, ⟨_, _, hcs0, rfl, rfl⟩, g0⟩ := Op.opens_arg (Op.opens_tuple (kd := (Kd.pair (Kd.int .i64) (Kd.int .i64))) Try.underlying29 (by kernel_rfl) (Op.opensF_cons rfl (by kernel_rfl) (Op.opens_int Try.underlying3) (Op.opensF_last rfl (by kernel_rfl) (Op.opens_int Try.underlying3)))) h0
  obtain rfl : v0 = .agg #[.int .i64 y0.1, .int .i64 y0.2] := Op.agg_of Try.underlying29 hv0 hcs0
  have hk := Pure.FnExactRelayValid (y0.1) (y0.2) g0.1 g0.2
  refine (laws_FnExactRelayValid.calls y0.1 y0.2 true W  hk).mono fun e W' ⟨he, bel0⟩ => ?_
  have bel : Below W.heap.size W W' := bel0
  subst he
  exact ⟨_, rfl, _, _, _, [], _, [], hW', trodAll_mk1 (shut_bool Try.underlying4 _), (trodAll_cons_mk (Below.trod laidOut (by kernel_rfl) (of_decide_eq_true (by kernel_rfl)) k0 bel lt0) trodAll_mk0), rfl, bel.frame _, fun h => by cases h⟩
theorem over : Rows.fnExactRelayValidRow.holds Try.pinned (OpenSpec.ofChange Rows.fnExactRelayValidSpec) :=
  OpenClaim.holds_of_wide 4 Try.f4 rfl rfl rfl rfl rfl rfl rfl ⟨rfl, rfl, rfl, rfl, rfl⟩ rfl rfl rfl rfl rfl (by kernel_rfl) Try.func4 (by kernel_rfl)
    (of_decide_eq_true (by kernel_rfl)) (by unfold Func.isWrapper; first | (rw [if_pos (by decide +kernel)]; kernel_rfl) | (rw [if_neg (by decide +kernel)]; exact ⟨rfl, rfl⟩))
    (fun os started H enc _ => lifted os started H enc)
end Go.Proofs.Ytfdmoiaeclkdcaa.fnExactRelayValid
namespace Go.Proofs.Ytfdmoiaeclkdcaa
theorem fnExactRelayValid_holds : Rows.FnExactRelayValidSaid := fnExactRelayValid.over
#print axioms fnExactRelayValid_holds
end Go.Proofs.Ytfdmoiaeclkdcaa
