/- An argument that can be read as data is opened to what the printed contracts read: whole numbers, bools, strings, structs by value and slices of all of these. No condition. -/
import Derived.Deep.Slices
import Derived.ChangeArms
import Derived.ChangeSame
import Derived.Test.YtihmidnjiaomhaaDoorWWords
namespace Go.Proofs.YtihmidnjiaomhaaDoor.Op
open Go.ChangeShapes Go.WideShapes Go.Proofs.YtihmidnjiaomhaaDoorW.PrintWords

/-- Whatever reads as data of type t has cells of the kind kd, and G holds of it. -/
def Opens {α : Type} (P : Program) (t : TypeId) (kd : Kd α) (G : α → Prop) : Prop :=
  ∀ (H : Type) (enc : TypeId × Value → H) (w : World) (base : Nat) (spare : Nat → Bool) (held : Bool) (fuel : Nat) (cs : List Value) (y : DataW H × List MemPlace),
    DataW.trod enc P w base spare held fuel t cs = some y → ∃ x, kd.K w x cs ∧ G x

theorem opens_int {P : Program} {t : TypeId} {k : IntKind} (ht : P.underlying t = some (.int k)) : Opens P t (Kd.int k) (fun n => (Lit.int k n).wf = true) := by
  intro H enc w base spare held fuel cs y h
  obtain ⟨n, hc, _, hw⟩ := DataW.trod_int ht h
  exact ⟨n, hc, hw⟩
theorem opens_bool {P : Program} {t : TypeId} (ht : P.underlying t = some .bool) : Opens P t Kd.bool (fun _ => True) := by
  intro H enc w base spare held fuel cs y h
  obtain ⟨b, hc, _⟩ := DataW.trod_bool ht h
  exact ⟨b, hc, trivial⟩
theorem opens_string {P : Program} {t : TypeId} (ht : P.underlying t = some .string) : Opens P t Kd.string (fun s => s.size ≤ maxLen) := by
  intro H enc w base spare held fuel cs y h
  obtain ⟨s, hc, _, hw⟩ := DataW.trod_string ht h
  exact ⟨s, hc, hw⟩

theorem choose_list {α : Type} (n : Nat) (Q : Nat → α → Prop) (h : ∀ i, i < n → ∃ x, Q i x) : ∃ xs : List α, xs.length = n ∧ ∀ i x, xs[i]? = some x → Q i x := by
  induction n with
  | zero => exact ⟨[], rfl, fun i x hx => by simp at hx⟩
  | succ n ih =>
    obtain ⟨xs, hl, hq⟩ := ih (fun i hi => h i (by omega))
    obtain ⟨x, hx⟩ := h n (by omega)
    refine ⟨xs ++ [x], by simp [hl], fun i y hy => ?_⟩
    by_cases hi : i < xs.length
    · rw [List.getElem?_append_left hi] at hy
      exact hq i y hy
    · have hb := (List.getElem?_eq_some_iff.1 hy).1
      rw [List.length_append, List.length_singleton] at hb
      have hin : i = n := by omega
      subst hin
      rw [List.getElem?_append_right (by omega), hl] at hy
      simp at hy
      subst hy
      exact hx

theorem opens_slice {α : Type} {P : Program} {t e : TypeId} {kd : Kd α} {G : α → Prop} (ht : P.underlying t = some (.slice e)) (hsz : P.cellsOf e = kd.sz) (O : Opens P e kd G) :
    Opens P t (Kd.slice e kd) (fun xs => xs.length ≤ maxLen ∧ ∀ x ∈ xs, G x) := by
  intro H enc w base spare held fuel cs y h
  rcases Go.Deep.open_slice ht h with ⟨rfl, _⟩ | ⟨a, len, cap, m, n, D, Pl, rfl, _, hl, hm, hmm, _, hi⟩
  · exact ⟨[], ⟨none, 0, rfl, Nat.le_refl _, ⟨rfl, by simp, fun h0 => absurd h0 (Nat.lt_irrefl 0)⟩⟩, by simp, by simp⟩
  · have hlm : len ≤ m := by rw [hmm]; split <;> omega
    have hch := choose_list (α := α) len (fun i x => (∃ c : List Value, c.length = kd.sz ∧ kd.K w x c ∧ ∀ j u, c[j]? = some u → w.cell? (a.add (i * kd.sz + j)) = some u) ∧ G x) (by
      intro i hil
      obtain ⟨c, hc, htr⟩ := hi i (by omega)
      obtain ⟨x, hk, hg⟩ := O H enc w base spare held n c _ htr
      obtain ⟨_, hcl, hcell⟩ := World.cells?_some hc
      refine ⟨x, ⟨c, by rw [hcl, hsz], hk, fun j u hu => ?_⟩, hg⟩
      have hj : j < c.length := (List.getElem?_eq_some_iff.1 hu).1
      have := hcell j (by omega)
      rw [Go.Deep.add_add, hsz] at this
      rw [this, hu])
    obtain ⟨xs, hxl, hq⟩ := hch
    refine ⟨xs, ⟨some a, cap, by rw [hxl], by omega, ⟨rfl, by simp only [maxLen] at hm; omega, fun _ => ⟨a, rfl, fun j p hp => (hq j p hp).1⟩⟩⟩, by omega, fun x hx => ?_⟩
    obtain ⟨i, hil, hix⟩ := List.getElem_of_mem hx
    exact (hq i x (by rw [← hix]; exact List.getElem?_eq_getElem hil)).2

theorem take_all {α : Type} (cs : List α) (n : Nat) (h : cs.length = n) : cs.take n = cs := by rw [← h, List.take_length]

/-- A struct's fields in line: from offset o on. -/
def OpensF {α : Type} (P : Program) (fs : List Field) (o : Nat) (kd : Kd α) (G : α → Prop) : Prop :=
  ∀ (H : Type) (enc : TypeId × Value → H) (w : World) (base : Nat) (spare : Nat → Bool) (held : Bool) (n : Nat) (cs : List Value) (ys : List (DataW H × List MemPlace)),
    cs.length = o + kd.sz → ys.length = fs.length →
    (∀ (i : Nat) (f : Field), fs[i]? = some f → DataW.trod enc P w base spare held n f.type ((cs.drop f.offset).take (P.cellsOf f.type)) = ys[i]?) → ∃ x, kd.K w x (cs.drop o) ∧ G x

theorem opensF_last {α : Type} {P : Program} {f : Field} {o : Nat} {kd : Kd α} {G : α → Prop} (ho : f.offset = o) (hs : P.cellsOf f.type = kd.sz) (O : Opens P f.type kd G) : OpensF P [f] o kd G := by
  intro H enc w base spare held n cs ys hl hy hf
  have h0 := hf 0 f rfl
  obtain ⟨y, hy0⟩ : ∃ y, ys[0]? = some y := ⟨_, List.getElem?_eq_getElem (by rw [hy]; simp)⟩
  rw [hy0, ho, hs, take_all (cs.drop o) kd.sz (by rw [List.length_drop]; omega)] at h0
  exact O H enc w base spare held n _ _ h0

theorem opensF_cons {α β : Type} {P : Program} {f : Field} {fs : List Field} {o : Nat} {ka : Kd α} {kb : Kd β} {Ga : α → Prop} {Gb : β → Prop} (ho : f.offset = o) (hs : P.cellsOf f.type = ka.sz) (O : Opens P f.type ka Ga)
    (R : OpensF P fs (o + ka.sz) kb Gb) : OpensF P (f :: fs) o (Kd.pair ka kb) (fun x => Ga x.1 ∧ Gb x.2) := by
  intro H enc w base spare held n cs ys hl hy hf
  have hsz : (Kd.pair ka kb).sz = ka.sz + kb.sz := rfl
  rw [hsz] at hl
  match ys, hy, hf with
  | [], hy, _ => simp at hy
  | y :: ys, hy, hf =>
    have h0 := hf 0 f rfl
    rw [ho, hs] at h0
    obtain ⟨x0, k0, g0⟩ := O H enc w base spare held n _ _ h0
    obtain ⟨x1, k1, g1⟩ := R H enc w base spare held n cs ys (by omega) (by simpa using hy) (fun i g hg => by
      have := hf (i + 1) g (by simpa using hg)
      simpa using this)
    refine ⟨(x0, x1), ⟨(cs.drop o).take ka.sz, cs.drop (o + ka.sz), ?_, k0, k1⟩, g0, g1⟩
    rw [← List.drop_drop, List.take_append_drop]

theorem opens_struct {α β : Type} {P : Program} {t : TypeId} {fs : List Field} {kd : Kd α} {p : β → α} (q : α → β) {G : α → Prop} (hpq : ∀ x, p (q x) = x) (ht : P.underlying t = some (.struct fs.toArray)) (hs : P.cellsOf t = kd.sz) (O : OpensF P fs 0 kd G) :
    Opens P t (Kd.iso kd p) (fun x => G (p x)) := by
  intro H enc w base spare held fuel cs y h
  obtain ⟨ys, n, _, _, hl, hlen, hf⟩ := DataW.trod_struct ht h
  obtain ⟨x, k0, g0⟩ := O H enc w base spare held n cs ys (by omega) (by simpa using hlen) (fun i f hi => hf i f (by simpa using hi))
  refine ⟨q x, ?_, (by show G (p (q x)); rw [hpq]; exact g0)⟩
  show kd.K w (p (q x)) cs
  rw [hpq]
  simpa using k0

theorem opens_tuple {α : Type} {P : Program} {t : TypeId} {fs : List Field} {kd : Kd α} {G : α → Prop} (ht : P.underlying t = some (.struct fs.toArray)) (hs : P.cellsOf t = kd.sz) (O : OpensF P fs 0 kd G) : Opens P t kd G := by
  intro H enc w base spare held fuel cs y h
  obtain ⟨ys, n, _, _, hl, hlen, hf⟩ := DataW.trod_struct ht h
  obtain ⟨x, k0, g0⟩ := O H enc w base spare held n cs ys (by omega) (by simpa using hlen) (fun i f hi => hf i f (by simpa using hi))
  exact ⟨x, by simpa using k0, g0⟩

/-- An argument, opened. -/
theorem opens_arg {α : Type} {P : Program} {t : TypeId} {kd : Kd α} {G : α → Prop} (O : Opens P t kd G) {H : Type} {enc : TypeId × Value → H} {w : World} {base : Nat} {spare : Nat → Bool} {held : Bool} {v : Value} {d : DataW H} {ps : List MemPlace}
    (h : DataW.Trod enc P w base spare held t v d ps) : ∃ x, kd.K w x v.cells.toList ∧ G x := by
  obtain ⟨fuel, hf⟩ := h
  exact O H enc w base spare held fuel _ _ hf

theorem agg_of {P : Program} {w : World} {r : Reach} {base : Nat} {t : TypeId} {v : Value} {fs : Array Field} (ht : P.underlying t = some (.struct fs)) (h : Value.okWide P w r base t v) {l : List Value} (hl : v.cells.toList = l) : v = .agg l.toArray := by
  obtain ⟨cs, rfl, _⟩ := okWide_struct ht h
  simp only [Value.cells] at hl
  rw [← hl]
theorem slice_of {P : Program} {w : World} {r : Reach} {base : Nat} {t : TypeId} {v : Value} {e : TypeId} (ht : P.underlying t = some (.slice e)) (h : Value.okWide P w r base t v) {x : Value} (hl : v.cells.toList = [x]) : v = x := by
  obtain ⟨a, len, cap, rfl⟩ := okWide_slice ht h
  simpa [Value.cells] using hl
end Go.Proofs.YtihmidnjiaomhaaDoor.Op
