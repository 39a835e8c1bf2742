/- Numbers within the bounds of 64 bits, lists read by an index, and bounded equality: plain Lean. No condition. -/
import Derived.WalkKit
import Derived.IntWalk
import Derived.Test.YtihmidnjiaomhaaDoorLim
namespace Go.Proofs.YtihmidnjiaomhaaDoor.Op
open Go.RowKit Go.Proofs.YtihmidnjiaomhaaDoorW.PrintWords

theorem wf_i64 {n : Int} (h : (Lit.int .i64 n).wf = true) : -9223372036854775808 ≤ n ∧ n ≤ 9223372036854775807 := by
  have e0 : IntKind.i64.min = -9223372036854775808 := by decide
  have e1 : IntKind.i64.max = 9223372036854775807 := by decide
  simp only [Lit.wf, Bool.and_eq_true, decide_eq_true_eq] at h
  rw [e0, e1] at h
  exact h
theorem w64 {n : Int} (h : -9223372036854775808 ≤ n ∧ n ≤ 9223372036854775807) : wrap64 n = n := by
  unfold wrap64
  omega
theorem max_len {n : Nat} (h : n ≤ maxLen) : n ≤ 9223372036854775807 := by
  unfold maxLen at h
  omega
theorem rd_nat (xs : List Int) (i : Nat) (h : i < xs.length) : rd xs (i : Int) = xs[i] := by
  simp [rd, List.getD_eq_getElem?_getD, List.getElem?_eq_getElem h]
theorem rdOf_nat {α : Type} (d : α) (xs : List α) (i : Nat) (h : i < xs.length) : rdOf d xs (i : Int) = xs[i] := by
  simp [rdOf, List.getD_eq_getElem?_getD, List.getElem?_eq_getElem h]
/-- What a loop that writes element i from an elder list comes to. -/
theorem fill_step {α : Type} (xs ys : List α) (i : Nat) (hx : i < xs.length) (hl : ys.length = xs.length) (hy : ys.take i = xs.take i) : (ys.set i xs[i]).take (i + 1) = xs.take (i + 1) := by
  rw [List.take_succ_eq_append_getElem (by simpa using by omega), List.take_succ_eq_append_getElem hx, List.take_set_of_le (Nat.le_refl _), hy]
  simp
/-- Behind a call that leaves what was as it was. -/
theorem bcell {W w1 : World} (hb : Below W.heap.size W w1) : (∀ b o, b < W.heap.size → w1.cell? ⟨b, o, none⟩ = W.cell? ⟨b, o, none⟩) ∧ (∀ b o, b < W.heap.size → w1.frozen? ⟨b, o, none⟩ = W.frozen? ⟨b, o, none⟩) :=
  ⟨fun b o h => hb.cell (p := ⟨b, o, none⟩) h, fun b o h => hb.frozen (p := ⟨b, o, none⟩) h⟩
end Go.Proofs.YtihmidnjiaomhaaDoor.Op
