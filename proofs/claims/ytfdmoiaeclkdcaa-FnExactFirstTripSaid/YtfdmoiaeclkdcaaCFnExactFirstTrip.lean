/- What the exact laws' helpers answer: copies, sizes, comparisons, marks. No condition beyond the bounds in each line. -/
import Derived.Test.YtfdmoiaeclkdcaaVFnExactFirstTrip0
import Derived.Test.YtfdmoiaeclkdcaaNum
namespace Go.Proofs.Ytfdmoiaeclkdcaa.PFnExactFirstTrip
open Go.RowKit Go.Proofs.YtfdmoiaeclkdcaaW.PrintWords Go.Proofs.YtfdmoiaeclkdcaaW.PrintLast Go.Proofs.Ytfdmoiaeclkdcaa.Op
set_option linter.unusedVariables false
set_option linter.unusedSimpArgs false
theorem rd_T29_nat (xs : List S29) (i : Nat) (h : i < xs.length) : rd_T29 xs (i : Int) = xs[i] := by
  simp [rd_T29, List.getD_eq_getElem?_getD, List.getElem?_eq_getElem h]
theorem rd_T31_nat (xs : List S31) (i : Nat) (h : i < xs.length) : rd_T31 xs (i : Int) = xs[i] := by
  simp [rd_T31, List.getD_eq_getElem?_getD, List.getElem?_eq_getElem h]
def cRelay (s : S29) : S31 := ⟨s.f0, s.f1⟩
theorem laws_toRelayS.loop (x0 : List S29) (hb : x0.length ≤ 17592186044416) (d : Nat) : ∀ (y : List S31) (i : Nat), i + d = x0.length → y.length = x0.length → y.take i = (x0.map cRelay).take i → laws_toRelayS.vl0 x0 y (i : Int) = some (x0.map cRelay) := by
  induction d with
  | zero =>
    intro y i hi hl ht
    rw [laws_toRelayS.vl0_eq, if_neg (by omega)]
    rw [List.take_of_length_le (by omega), List.take_of_length_le (by first | omega | (rw [List.length_map]; omega))] at ht
    rw [ht]
  | succ d ih =>
    intro y i hi hl ht
    rw [laws_toRelayS.vl0_eq, if_pos (by omega), if_pos (by omega)]
    simp only [laws_toRelay.f, Option.bind_some]
    rw [if_pos (by omega), w64 (by omega)]
    have e : ((i : Int) + 1) = ((i + 1 : Nat) : Int) := by omega
    rw [e, rd_T29_nat x0 i (by omega), Int.toNat_natCast]
    have hm : (x0.map cRelay)[i]'(by rw [List.length_map]; omega) = cRelay (x0[i]'(by omega)) := by simp
    have hs := fill_step (x0.map cRelay) y i (by rw [List.length_map]; omega) (by rw [List.length_map]; exact hl) ht
    rw [hm] at hs
    exact ih _ (i + 1) (by omega) (by simp [hl]) hs
theorem laws_toRelayS.val (x0 : List S29) (hb : x0.length ≤ 17592186044416) : laws_toRelayS.v x0 = some (x0.map cRelay) := by
  rw [laws_toRelayS.v_eq, if_pos (by omega), if_pos (by omega)]
  exact laws_toRelayS.loop x0 hb x0.length _ 0 (by omega) (by simp) (by simp)
theorem laws_eqRelayS.loop (x0 : List S31) (hb : x0.length ≤ 9223372036854775806) (d : Nat) : ∀ (i : Nat), i + d = x0.length → laws_eqRelayS.vl0 x0 x0 (i : Int) = some true := by
  induction d with
  | zero =>
    intro i hi
    rw [laws_eqRelayS.vl0_eq, if_neg (by omega)]
  | succ d ih =>
    intro i hi
    rw [laws_eqRelayS.vl0_eq, if_pos (by omega), if_pos (by omega), if_pos (by omega)]
    simp only [laws_eqRelay.f, bne_self_eq_false, Bool.false_eq_true, if_true, if_false, Option.bind_some]
    rw [w64 (by omega)]
    exact ih (i + 1) (by omega)
theorem laws_eqRelayS.val (x0 : List S31) (hb : x0.length ≤ 9223372036854775806) : laws_eqRelayS.v x0 x0 = some true := by
  rw [laws_eqRelayS.v_eq, if_pos rfl]
  exact laws_eqRelayS.loop x0 hb x0.length 0 (by omega)
end Go.Proofs.Ytfdmoiaeclkdcaa.PFnExactFirstTrip
