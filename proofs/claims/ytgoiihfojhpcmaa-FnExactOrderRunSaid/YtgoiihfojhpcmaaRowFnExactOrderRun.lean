/- FnExactOrderRun: for every input the law returns true, and each argument reads as it read before. No condition. -/
import Derived.Test.YtgoiihfojhpcmaaRows
import Derived.Test.YtgoiihfojhpcmaaRx8
import Derived.Test.YtgoiihfojhpcmaaOpen
import Derived.Test.YtgoiihfojhpcmaaPureFnExactOrderRun
import Derived.WalkKit
import Derived.ProofKit
import Derived.OpenShut
import Derived.ShutString
import Derived.ChangeOld
import Derived.Below
import Derived.SizedLaws
namespace Go.Proofs.Ytgoiihfojhpcmaa.fnExactOrderRun
open Go.ChangeShapes Go.WideShapes Go.ChangeAt Go.RowKit Go.Proofs.Ytgoiihfojhpcmaa.R Go.Proofs.YtgoiihfojhpcmaaW.PrintWords
open Go.ChangeMaps (open_string shut_string)
theorem own : ownKnob Try.prog.godebug = none := by kernel_rfl
theorem laidOut : laidOutB Try.prog = true := by kernel_rfl
set_option maxRecDepth 100000 in
theorem lifted (os : Os) (started : os.Started) (H : Type) (enc : TypeId × Value → H) :
    ReturnsInHanded {} Try.checked os 4 .any (Rows.fnExactOrderRunSpec.pre6 enc Try.prog Try.f4 Rows.fnExactOrderRunRow.domain false) (Rows.fnExactOrderRunSpec.post enc Try.prog Try.f4 false true false false) := by
  refine returnsInHanded_of_change_sized (C := Try.checked) own started (by kernel_rfl) Try.func4
    (ChangeSpec.witness6 (enc := enc) (C := Try.checked) false ⟨#[], #[.agg #[.int .i64 0, .slice none 0 0], .slice none 0 0, .slice none 0 0], []⟩ 8 (by kernel_rfl) (by kernel_rfl) (by kernel_rfl) (by kernel_rfl)) ?_
  intro W base args ds gs before hval0 hW hcnd _ _
  have hval : ∀ (j : Nat) t v, Try.f4.params[j]? = some t → args[j]? = some v → Value.okWide Try.prog W .any base t v := hval0
  have hW' := hW
  obtain ⟨p, q, hA0, hV, rfl, hfz, hnd⟩ := hW
  have hA : DataW.TrodAll enc Try.prog W 0 (fun _ => true) true Try.f4.params.toList args.toList ds p := hA0
  rw [Try.params4] at hA hval
  obtain ⟨v0, vs0, d0, ds0, p0, q0, hargs, rfl, rfl, h0, r0⟩ := trodAll_cons hA
  obtain ⟨v1, vs1, d1, ds1, p1, q1, rfl, rfl, rfl, h1, r1⟩ := trodAll_cons r0
  obtain ⟨v2, vs2, d2, ds2, p2, q2, rfl, rfl, rfl, h2, r2⟩ := trodAll_cons r1
  obtain ⟨rfl, rfl, rfl⟩ := trodAll_nil r2
  obtain rfl : args = #[v0, v1, v2] := by cases args; simp_all
  obtain ⟨rfl, rfl⟩ := trodVars_none hV
  have lt0 : ∀ x ∈ p0, x.block < W.heap.size := by obtain ⟨m, hm⟩ := h0; exact DataW.trod_lt m _ _ _ hm
  have hv0 := hval 0 24 v0 rfl rfl
  have lt1 : ∀ x ∈ p1, x.block < W.heap.size := by obtain ⟨m, hm⟩ := h1; exact DataW.trod_lt m _ _ _ hm
  have hv1 := hval 1 25 v1 rfl rfl
  have lt2 : ∀ x ∈ p2, x.block < W.heap.size := by obtain ⟨m, hm⟩ := h2; exact DataW.trod_lt m _ _ _ hm
  have hv2 := hval 2 52 v2 rfl rfl
  have k0 := h0
  obtain ⟨y0, ⟨_, _, hcs0, rfl, ⟨A0_1, c0_1, rfl, hl0_1, hC0_1⟩⟩, g0⟩ := Op.opens_arg (Op.opens_tuple (kd := (Kd.pair (Kd.int .i64) (Kd.slice 141 k141))) Try.underlying24 (by kernel_rfl) (Op.opensF_cons rfl (by kernel_rfl) (Op.opens_int Try.underlying3) (Op.opensF_last rfl (by kernel_rfl) (Op.opens_slice (kd := k141) Try.underlying22 (by kernel_rfl) (Op.opens_struct (fun x => ⟨x.1, x.2.1, x.2.2⟩) (fun _ => rfl) Try.underlying141 (by kernel_rfl) (Op.opensF_cons rfl (by kernel_rfl) (Op.opens_int Try.underlying3) (Op.opensF_cons rfl (by kernel_rfl) (Op.opens_int Try.underlying3) (Op.opensF_last rfl (by kernel_rfl) (Op.opens_int Try.underlying3))))))))) h0
  obtain rfl : v0 = .agg #[.int .i64 y0.1, .slice A0_1 (y0.2).length c0_1] := Op.agg_of Try.underlying24 hv0 hcs0
  have k1 := h1
  obtain ⟨x1, ⟨A1, c1, hcs1, hl1, hC1⟩, g1⟩ := Op.opens_arg (Op.opens_slice (kd := Kd.bool) Try.underlying25 (by kernel_rfl) (Op.opens_bool Try.underlying4)) h1
  obtain rfl := Op.slice_of Try.underlying25 hv1 hcs1
  have k2 := h2
  obtain ⟨x2, ⟨A2, c2, hcs2, hl2, hC2⟩, g2⟩ := Op.opens_arg (Op.opens_slice (kd := k105) Try.underlying52 (by kernel_rfl) (Op.opens_struct (fun x => ⟨x.1, x.2⟩) (fun _ => rfl) Try.underlying105 (by kernel_rfl) (Op.opensF_cons rfl (by kernel_rfl) (Op.opens_int Try.underlying3) (Op.opensF_last rfl (by kernel_rfl) (Op.opens_bool Try.underlying4))))) h2
  obtain rfl := Op.slice_of Try.underlying52 hv2 hcs2
  obtain ⟨k, hk⟩ := Pure.FnExactOrderRun (y0.1) (y0.2) x1 x2 g0.1 g0.2.1 (fun y hy => ⟨(g0.2.2 y hy).1, (g0.2.2 y hy).2.1, (g0.2.2 y hy).2.2⟩) g1.1 g2.1 (fun y hy => (g2.2 y hy).1)
  refine (laws_FnExactOrderRun.calls k y0.1 A0_1 c0_1 (y0.2) A1 c1 x1 A2 c2 x2 true W hC0_1 hl0_1 hC1 hl1 hC2 hl2 hk).mono fun e W' ⟨he, bel0⟩ => ?_
  have bel : Below W.heap.size W W' := bel0
  subst he
  exact ⟨_, rfl, _, _, _, [], _, [], hW', trodAll_mk1 (shut_bool Try.underlying4 _), (trodAll_cons_mk (Below.trod laidOut (by kernel_rfl) (of_decide_eq_true (by kernel_rfl)) k0 bel lt0) (trodAll_cons_mk (Below.trod laidOut (by kernel_rfl) (of_decide_eq_true (by kernel_rfl)) k1 bel lt1) (trodAll_cons_mk (Below.trod laidOut (by kernel_rfl) (of_decide_eq_true (by kernel_rfl)) k2 bel lt2) trodAll_mk0))), rfl, bel.frame _, fun h => by cases h⟩
theorem over : Rows.fnExactOrderRunRow.holds Try.pinned (OpenSpec.ofChange Rows.fnExactOrderRunSpec) :=
  OpenClaim.holds_of_wide 4 Try.f4 rfl rfl rfl rfl rfl rfl rfl ⟨rfl, rfl, rfl, rfl, rfl⟩ rfl rfl rfl rfl rfl (by kernel_rfl) Try.func4 (by kernel_rfl)
    (of_decide_eq_true (by kernel_rfl)) (by unfold Func.isWrapper; first | (rw [if_pos (by decide +kernel)]; kernel_rfl) | (rw [if_neg (by decide +kernel)]; exact ⟨rfl, rfl⟩))
    (fun os started H enc _ => lifted os started H enc)
end Go.Proofs.Ytgoiihfojhpcmaa.fnExactOrderRun
namespace Go.Proofs.Ytgoiihfojhpcmaa
theorem fnExactOrderRun_holds : Rows.FnExactOrderRunSaid := fnExactOrderRun.over
#print axioms fnExactOrderRun_holds
end Go.Proofs.Ytgoiihfojhpcmaa
