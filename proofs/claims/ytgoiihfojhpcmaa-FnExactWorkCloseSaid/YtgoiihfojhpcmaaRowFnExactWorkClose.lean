/- FnExactWorkClose: for every input the law returns true, and each argument reads as it read before. No condition. -/
import Derived.Test.YtgoiihfojhpcmaaRows
import Derived.Test.YtgoiihfojhpcmaaGx16
import Derived.Test.YtgoiihfojhpcmaaOpen
import Derived.Test.YtgoiihfojhpcmaaPureFnExactWorkClose
import Derived.WalkKit
import Derived.ProofKit
import Derived.OpenShut
import Derived.ShutString
import Derived.ChangeOld
import Derived.Below
import Derived.SizedLaws
namespace Go.Proofs.Ytgoiihfojhpcmaa.fnExactWorkClose
open Go.ChangeShapes Go.WideShapes Go.ChangeAt Go.RowKit Go.Proofs.Ytgoiihfojhpcmaa.G Go.Proofs.YtgoiihfojhpcmaaW.PrintWords
open Go.ChangeMaps (open_string shut_string)
theorem own : ownKnob Try.prog.godebug = none := by kernel_rfl
theorem laidOut : laidOutB Try.prog = true := by kernel_rfl
set_option maxRecDepth 100000 in
theorem lifted (os : Os) (started : os.Started) (H : Type) (enc : TypeId × Value → H) :
    ReturnsInHanded {} Try.checked os 9 .any (Rows.fnExactWorkCloseSpec.pre6 enc Try.prog Try.f9 Rows.fnExactWorkCloseRow.domain false) (Rows.fnExactWorkCloseSpec.post enc Try.prog Try.f9 false true false false) := by
  refine returnsInHanded_of_change_sized (C := Try.checked) own started (by kernel_rfl) Try.func9
    (ChangeSpec.witness6 (enc := enc) (C := Try.checked) false ⟨#[], #[.agg #[.slice none 0 0, .slice none 0 0, .slice none 0 0]], []⟩ 8 (by kernel_rfl) (by kernel_rfl) (by kernel_rfl) (by kernel_rfl)) ?_
  intro W base args ds gs before hval0 hW hcnd _ _
  have hval : ∀ (j : Nat) t v, Try.f9.params[j]? = some t → args[j]? = some v → Value.okWide Try.prog W .any base t v := hval0
  have hW' := hW
  obtain ⟨p, q, hA0, hV, rfl, hfz, hnd⟩ := hW
  have hA : DataW.TrodAll enc Try.prog W 0 (fun _ => true) true Try.f9.params.toList args.toList ds p := hA0
  rw [Try.params9] at hA hval
  obtain ⟨v0, vs0, d0, ds0, p0, q0, hargs, rfl, rfl, h0, r0⟩ := trodAll_cons hA
  obtain ⟨rfl, rfl, rfl⟩ := trodAll_nil r0
  obtain rfl : args = #[v0] := by cases args; simp_all
  obtain ⟨rfl, rfl⟩ := trodVars_none hV
  have lt0 : ∀ x ∈ p0, x.block < W.heap.size := by obtain ⟨m, hm⟩ := h0; exact DataW.trod_lt m _ _ _ hm
  have hv0 := hval 0 68 v0 rfl rfl
  have k0 := h0
  obtain ⟨y0, ⟨_, _, hcs0, ⟨A0_0, c0_0, rfl, hl0_0, hC0_0⟩, ⟨_, _, rfl, ⟨A0_1, c0_1, rfl, hl0_1, hC0_1⟩, ⟨A0_2, c0_2, rfl, hl0_2, hC0_2⟩⟩⟩, g0⟩ := Op.opens_arg (Op.opens_tuple (kd := (Kd.pair (Kd.slice 4 Kd.bool) (Kd.pair (Kd.slice 4 Kd.bool) (Kd.slice 147 k147)))) Try.underlying68 (by kernel_rfl) (Op.opensF_cons rfl (by kernel_rfl) (Op.opens_slice (kd := Kd.bool) Try.underlying25 (by kernel_rfl) (Op.opens_bool Try.underlying4)) (Op.opensF_cons rfl (by kernel_rfl) (Op.opens_slice (kd := Kd.bool) Try.underlying25 (by kernel_rfl) (Op.opens_bool Try.underlying4)) (Op.opensF_last rfl (by kernel_rfl) (Op.opens_slice (kd := k147) Try.underlying66 (by kernel_rfl) (Op.opens_struct (fun x => ⟨x.1, x.2⟩) (fun _ => rfl) Try.underlying147 (by kernel_rfl) (Op.opensF_cons rfl (by kernel_rfl) (Op.opens_int Try.underlying3) (Op.opensF_last rfl (by kernel_rfl) (Op.opens_int Try.underlying3))))))))) h0
  obtain rfl : v0 = .agg #[.slice A0_0 (y0.1).length c0_0, .slice A0_1 (y0.2.1).length c0_1, .slice A0_2 (y0.2.2).length c0_2] := Op.agg_of Try.underlying68 hv0 hcs0
  obtain ⟨k, hk⟩ := Pure.FnExactWorkClose (y0.1) (y0.2.1) (y0.2.2) g0.1.1 g0.2.1.1 g0.2.2.1 (fun y hy => ⟨(g0.2.2.2 y hy).1, (g0.2.2.2 y hy).2⟩)
  refine (laws_FnExactWorkClose.calls k A0_0 c0_0 (y0.1) A0_1 c0_1 (y0.2.1) A0_2 c0_2 (y0.2.2) true W hC0_0 hl0_0 hC0_1 hl0_1 hC0_2 hl0_2 hk).mono fun e W' ⟨he, bel0⟩ => ?_
  have bel : Below W.heap.size W W' := bel0
  subst he
  exact ⟨_, rfl, _, _, _, [], _, [], hW', trodAll_mk1 (shut_bool Try.underlying4 _), (trodAll_cons_mk (Below.trod laidOut (by kernel_rfl) (of_decide_eq_true (by kernel_rfl)) k0 bel lt0) trodAll_mk0), rfl, bel.frame _, fun h => by cases h⟩
theorem over : Rows.fnExactWorkCloseRow.holds Try.pinned (OpenSpec.ofChange Rows.fnExactWorkCloseSpec) :=
  OpenClaim.holds_of_wide 9 Try.f9 rfl rfl rfl rfl rfl rfl rfl ⟨rfl, rfl, rfl, rfl, rfl⟩ rfl rfl rfl rfl rfl (by kernel_rfl) Try.func9 (by kernel_rfl)
    (of_decide_eq_true (by kernel_rfl)) (by unfold Func.isWrapper; first | (rw [if_pos (by decide +kernel)]; kernel_rfl) | (rw [if_neg (by decide +kernel)]; exact ⟨rfl, rfl⟩))
    (fun os started H enc _ => lifted os started H enc)
end Go.Proofs.Ytgoiihfojhpcmaa.fnExactWorkClose
namespace Go.Proofs.Ytgoiihfojhpcmaa
theorem fnExactWorkClose_holds : Rows.FnExactWorkCloseSaid := fnExactWorkClose.over
#print axioms fnExactWorkClose_holds
end Go.Proofs.Ytgoiihfojhpcmaa
