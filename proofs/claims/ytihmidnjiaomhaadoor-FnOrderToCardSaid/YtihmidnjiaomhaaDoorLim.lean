/- What a function with a number of rounds answers when there are enough rounds: plain Lean, no program in sight. No condition. -/
import Derived.Test.YtihmidnjiaomhaaDoorWWords
namespace Go.Proofs.YtihmidnjiaomhaaDoor.Op
open Go.Proofs.YtihmidnjiaomhaaDoorW.PrintWords

/-- g answers more and more, and in the end o. -/
structure Lim {α : Type} (g : Nat → Option α) (o : Option α) : Prop where
  up : ∀ k, LeO (g k) (g (k + 1))
  le : ∀ k, LeO (g k) o
  ge : ∀ r, o = some r → ∃ k, g k = some r
noncomputable def lim {α : Type} (g : Nat → Option α) : Option α := open Classical in if h : ∃ r k, g k = some r then some (Classical.choose h) else none
section
variable {α β : Type}
theorem Lim.of {g : Nat → Option α} (h : ∀ k, LeO (g k) (g (k + 1))) : Lim g (lim g) := by
  refine ⟨h, fun k r hr => ?_, fun r hr => ?_⟩
  · have hex : ∃ r k, g k = some r := ⟨r, k, hr⟩
    unfold lim
    rw [dif_pos hex]
    obtain ⟨k', hk'⟩ := Classical.choose_spec hex
    have h1 := at_rounds h (Nat.le_max_left k k') hr
    have h2 := at_rounds h (Nat.le_max_right k k') hk'
    rw [h1] at h2
    exact h2.symm
  · unfold lim at hr
    split at hr
    · rename_i hex
      obtain ⟨k', hk'⟩ := Classical.choose_spec hex
      exact ⟨k', by rw [hk']; exact hr⟩
    · cases hr
theorem Lim.unique {g : Nat → Option α} {o p : Option α} (h : Lim g o) (k : Lim g p) : o = p := by
  cases o with
  | some r =>
    obtain ⟨n, hn⟩ := h.ge r rfl
    exact (k.le n r hn).symm
  | none =>
    cases p with
    | none => rfl
    | some r =>
      obtain ⟨n, hn⟩ := k.ge r rfl
      exact h.le n r hn
theorem Lim.const (x : Option α) : Lim (fun _ => x) x := ⟨fun _ => LeO.refl _, fun _ => LeO.refl _, fun _ h => ⟨0, h⟩⟩
theorem Lim.bind {g : Nat → Option α} {f : Nat → α → Option β} {o : Option α} {p : α → Option β} (h : Lim g o) (k : ∀ a, Lim (fun n => f n a) (p a)) : Lim (fun n => (g n).bind (f n)) (o.bind p) := by
  refine ⟨fun n => LeO.bind (h.up n) (fun a => (k a).up n), fun n r hr => ?_, fun r hr => ?_⟩
  · obtain ⟨a, ha, hf⟩ := Option.bind_eq_some_iff.1 hr
    rw [h.le n a ha]
    exact (k a).le n r hf
  · obtain ⟨a, ha, hf⟩ := Option.bind_eq_some_iff.1 hr
    obtain ⟨n, hn⟩ := h.ge a ha
    obtain ⟨m, hm⟩ := (k a).ge r hf
    refine ⟨max n m, ?_⟩
    show (g (max n m)).bind (f (max n m)) = some r
    rw [at_rounds h.up (Nat.le_max_left n m) hn]
    exact at_rounds (k a).up (Nat.le_max_right n m) hm
theorem Lim.ite {c : Prop} [Decidable c] {g f : Nat → Option α} {o p : Option α} (h : Lim g o) (k : Lim f p) : Lim (fun n => if c then g n else f n) (if c then o else p) := by
  by_cases hc : c
  · simp only [if_pos hc]; exact h
  · simp only [if_neg hc]; exact k
theorem Lim.succ {g : Nat → Option α} {o : Option α} (hu : ∀ k, LeO (g k) (g (k + 1))) (h : Lim (fun n => g (n + 1)) o) : Lim g o := by
  refine ⟨hu, fun k => LeO.trans (hu k) (h.le k), fun r hr => ?_⟩
  obtain ⟨k, hk⟩ := h.ge r hr
  exact ⟨k + 1, hk⟩
theorem Lim.rounds {g : Nat → Option α} {o : Option α} (h : Lim g o) {r : α} (ho : o = some r) : ∃ k, g k = some r := h.ge r ho
end
end Go.Proofs.YtihmidnjiaomhaaDoor.Op
