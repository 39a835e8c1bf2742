/- What the exact laws' helpers answer: copies, sizes, comparisons, marks. No condition beyond the bounds in each line. -/
import Derived.Test.YtgoiihfojhpcmaaV2
import Derived.Test.YtgoiihfojhpcmaaV3
import Derived.Test.YtgoiihfojhpcmaaV4
import Derived.Test.YtgoiihfojhpcmaaV5
import Derived.Test.YtgoiihfojhpcmaaNum
namespace Go.Proofs.Ytgoiihfojhpcmaa.G
open Go.RowKit Go.Proofs.YtgoiihfojhpcmaaW.PrintWords Go.Proofs.YtgoiihfojhpcmaaW.PrintLast Go.Proofs.Ytgoiihfojhpcmaa.Op
set_option linter.unusedVariables false
set_option linter.unusedSimpArgs false
theorem laws_toIntS.loop (x0 : List Int) (hb : x0.length ≤ 35184372088832) (d : Nat) : ∀ (y : List Int) (i : Nat), i + d = x0.length → y.length = x0.length → y.take i = x0.take i → laws_toIntS.vl0 x0 y (i : Int) = some x0 := by
  induction d with
  | zero =>
    intro y i hi hl ht
    rw [laws_toIntS.vl0_eq, if_neg (by omega)]
    rw [List.take_of_length_le (by omega), List.take_of_length_le (by first | omega | (rw [List.length_map]; omega))] at ht
    rw [ht]
  | succ d ih =>
    intro y i hi hl ht
    rw [laws_toIntS.vl0_eq, if_pos (by omega), if_pos (by omega), if_pos (by omega), w64 (by omega)]
    have e : ((i : Int) + 1) = ((i + 1 : Nat) : Int) := by omega
    rw [e, rd_nat x0 i (by omega), Int.toNat_natCast]
    exact ih _ (i + 1) (by omega) (by simp [hl]) (fill_step x0 y i (by omega) hl ht)
theorem laws_toIntS.val (x0 : List Int) (hb : x0.length ≤ 35184372088832) : laws_toIntS.v x0 = some x0 := by
  rw [laws_toIntS.v_eq, if_pos (by omega), if_pos (by omega)]
  exact laws_toIntS.loop x0 hb x0.length _ 0 (by omega) (by simp) (by simp)
theorem laws_eqIntS.loop (x0 : List Int) (hb : x0.length ≤ 9223372036854775806) (d : Nat) : ∀ (i : Nat), i + d = x0.length → laws_eqIntS.vl0 x0 x0 (i : Int) = some true := by
  induction d with
  | zero =>
    intro i hi
    rw [laws_eqIntS.vl0_eq, if_neg (by omega)]
  | succ d ih =>
    intro i hi
    rw [laws_eqIntS.vl0_eq, if_pos (by omega), if_pos (by omega), if_pos (by omega)]
    rw [if_pos rfl, w64 (by omega)]
    exact ih (i + 1) (by omega)
theorem laws_eqIntS.val (x0 : List Int) (hb : x0.length ≤ 9223372036854775806) : laws_eqIntS.v x0 x0 = some true := by
  rw [laws_eqIntS.v_eq, if_pos rfl]
  exact laws_eqIntS.loop x0 hb x0.length 0 (by omega)
end Go.Proofs.Ytgoiihfojhpcmaa.G
