/- The pure statement of FnExactOrderTo: what the printed functions compute answers true. -/
import Derived.Test.YtfdmoiaeclkdcaaPFnExactOrderTox4
import Derived.Test.YtfdmoiaeclkdcaaCFnExactOrderTo
namespace Go.Proofs.Ytfdmoiaeclkdcaa.Pure
open Go.RowKit Go.Proofs.Ytfdmoiaeclkdcaa.PFnExactOrderTo Go.Proofs.YtfdmoiaeclkdcaaW.PrintWords Go.Proofs.YtfdmoiaeclkdcaaW.PrintLast Go.Proofs.Ytfdmoiaeclkdcaa.Op

set_option linter.unusedSimpArgs false
/-- The numbers i .. n-1. -/
def R (i n : Nat) : List Int := (List.range' i (n - i)).map (fun k : Nat => (k : Int))
theorem R_end {i n : Nat} (h : n ≤ i) : R i n = [] := by
  unfold R
  rw [show n - i = 0 by omega]
  rfl
theorem R_cons {i n : Nat} (h : i < n) : R i n = (i : Int) :: R (i + 1) n := by
  unfold R
  rw [show n - i = (n - (i + 1)) + 1 by omega, List.range'_succ]
  rfl
def pa (a : List Bool) (k : Int) : Bool := rdOf false a k
theorem mem_R {i n : Nat} {k : Int} (h : k ∈ R i n) : 0 ≤ k ∧ k < n := by
  unfold R at h
  rw [List.mem_map] at h
  obtain ⟨j, hj, rfl⟩ := h
  rw [List.mem_range'] at hj
  obtain ⟨q, hq, rfl⟩ := hj
  omega
theorem len_filter_R (p : Int → Bool) (i n : Nat) : ((R i n).filter p).length ≤ n := by
  have := List.length_filter_le p (R i n)
  unfold R at *
  simp at *
  omega
theorem changes_loop (a b : List Bool) (h : a.length = b.length) (hl : a.length ≤ 1048576) (d : Nat) : ∀ (i : Nat) (acc : List Int), i + d = a.length → acc.length ≤ i →
    spec_Changes.vl0 a b acc (i : Int) = some (acc ++ (R i a.length).filter (fun k => pa a k != pa b k)) := by
  induction d with
  | zero =>
    intro i acc hi ha
    rw [spec_Changes.vl0_eq, if_neg (by omega), spec_Changes.vj1_eq, if_neg (by decide), R_end (by omega)]
    simp
  | succ d ih =>
    intro i acc hi ha
    have e : ((i : Int) + 1) = ((i + 1 : Nat) : Int) := by omega
    have hb : ((a.length : Int) == (b.length : Int)) = true := by rw [h]; simp
    rw [spec_Changes.vl0_eq, if_pos (by omega), spec_Changes.vj1_eq, if_pos hb, if_pos (by omega), if_pos (by omega), if_pos (by omega), w64 (by omega), e, R_cons (show i < a.length by omega)]
    by_cases hd : (rdOf false a (i : Int) != rdOf false b (i : Int)) = true
    · have hd2 : (pa a (i : Int) != pa b (i : Int)) = true := hd
      rw [if_pos hd, if_pos (by omega), ih (i + 1) (acc ++ [(i : Int)]) (by omega) (by simp; omega)]
      simp [List.filter_cons, hd2]
    · have hd2 : (pa a (i : Int) != pa b (i : Int)) = false := Bool.eq_false_iff.2 hd
      rw [if_neg hd, ih (i + 1) acc (by omega) (by omega)]
      simp [List.filter_cons, hd2]
theorem changes_val (a b : List Bool) (h : a.length = b.length) (hl : a.length ≤ 1048576) : spec_Changes.v a b = some ((R 0 a.length).filter (fun k => pa a k != pa b k)) := by
  rw [spec_Changes.v_eq]
  exact changes_loop a b h hl a.length 0 [] (by omega) (by simp)
theorem changes_ne (a b : List Bool) (h : a.length ≠ b.length) : spec_Changes.v a b = some [] := by
  rw [spec_Changes.v_eq, spec_Changes.vl0_eq]
  have hb : ((a.length : Int) == (b.length : Int)) = false := by simp; omega
  split
  · rw [spec_Changes.vj1_eq, hb]; rfl
  · rw [spec_Changes.vj1_eq]; rfl
def off (k : Int) : S81 := ⟨k, false⟩
def on (k : Int) : S81 := ⟨k, true⟩
theorem spec_on (b : List Bool) (L : List Int) (hL : ∀ k ∈ L, 0 ≤ k ∧ k < (b.length : Int)) (hl : L.length ≤ 1048576) (d : Nat) : ∀ (j : Nat) (acc : List S81), j + d = L.length → acc.length ≤ 1048576 + j →
    spec_OrderTo.vl1 b acc L (j : Int) = some (acc ++ ((L.drop j).filter (pa b)).map on) := by
  induction d with
  | zero =>
    intro j acc hj ha
    rw [spec_OrderTo.vl1_eq, if_neg (by omega), List.drop_of_length_le (by omega)]
    simp
  | succ d ih =>
    intro j acc hj ha
    have e : ((j : Int) + 1) = ((j + 1 : Nat) : Int) := by omega
    have hk := hL L[j] (List.getElem_mem _)
    rw [spec_OrderTo.vl1_eq, if_pos (by omega), if_pos (by omega), rd_nat L j (by omega), if_pos hk.1, if_pos hk.2, w64 (by omega), e, List.drop_eq_getElem_cons (show j < L.length by omega), List.filter_cons]
    by_cases hd : rdOf false b L[j] = true
    · have hd2 : pa b L[j] = true := hd
      rw [if_pos hd, if_pos (by omega), ih (j + 1) (acc ++ [(⟨L[j], true⟩ : S81)]) (by omega) (by simp; omega), if_pos hd2]
      simp [on]
    · have hd2 : ¬ (pa b L[j] = true) := hd
      rw [if_neg hd, ih (j + 1) acc (by omega) (by omega), if_neg hd2]
theorem spec_off (a b : List Bool) (L : List Int) (hL : ∀ k ∈ L, 0 ≤ k ∧ k < (a.length : Int)) (hl : L.length ≤ 1048576) (d : Nat) : ∀ (j : Nat) (acc : List S81), j + d = L.length → acc.length ≤ j →
    spec_OrderTo.vl0 a b acc L (j : Int) = spec_OrderTo.vl1 b (acc ++ ((L.drop j).filter (pa a)).map off) L 0 := by
  induction d with
  | zero =>
    intro j acc hj ha
    rw [spec_OrderTo.vl0_eq, if_neg (by omega), List.drop_of_length_le (by omega)]
    simp
  | succ d ih =>
    intro j acc hj ha
    have e : ((j : Int) + 1) = ((j + 1 : Nat) : Int) := by omega
    have hk := hL L[j] (List.getElem_mem _)
    rw [spec_OrderTo.vl0_eq, if_pos (by omega), if_pos (by omega), rd_nat L j (by omega), if_pos hk.1, if_pos hk.2, w64 (by omega), e, List.drop_eq_getElem_cons (show j < L.length by omega), List.filter_cons]
    by_cases hd : rdOf false a L[j] = true
    · have hd2 : pa a L[j] = true := hd
      rw [if_pos hd, if_pos (by omega), ih (j + 1) (acc ++ [(⟨L[j], false⟩ : S81)]) (by omega) (by simp; omega), if_pos hd2]
      simp [off]
    · have hd2 : ¬ (pa a L[j] = true) := hd
      rw [if_neg hd, ih (j + 1) acc (by omega) (by omega), if_neg hd2]
/-- The order that leads from a to b. -/
def ord (a b : List Bool) : List S81 := if a.length = b.length ∧ a.length ≤ 10 then ((R 0 a.length).filter (fun k => pa a k && !pa b k)).map off ++ ((R 0 a.length).filter (fun k => pa b k && !pa a k)).map on else []
theorem spec_val (a b : List Bool) (ha : a.length ≤ 1048576) : spec_OrderTo.v a b = some (ord a b) := by
  rw [spec_OrderTo.v_eq, Option.bind_some]
  by_cases h : a.length = b.length
  · rw [changes_val a b h ha, Option.bind_some]
    by_cases h10 : (a.length : Int) > 10
    · rw [if_pos h10]
      unfold ord
      rw [if_neg (by omega)]
    · rw [if_neg h10]
      have hm : ∀ k ∈ (R 0 a.length).filter (fun k => pa a k != pa b k), 0 ≤ k ∧ k < (a.length : Int) := fun k hk => mem_R (List.mem_filter.1 hk).1
      have hn := len_filter_R (fun k => pa a k != pa b k) 0 a.length
      have e1 := spec_off a b _ hm (by omega) _ 0 [] (Nat.zero_add _) (Nat.le_refl _)
      rw [show ((0 : Nat) : Int) = 0 from rfl] at e1
      rw [e1]
      have hf := List.length_filter_le (pa a) ((R 0 a.length).filter (fun k => pa a k != pa b k))
      have e2 := spec_on b _ (by rw [← h]; exact hm) (by omega) _ 0 ([] ++ (((List.drop 0 ((R 0 a.length).filter (fun k => pa a k != pa b k))).filter (pa a)).map off)) (Nat.zero_add _) (by simp only [List.nil_append, List.drop_zero, List.length_map]; omega)
      rw [show ((0 : Nat) : Int) = 0 from rfl] at e2
      rw [e2]
      unfold ord
      rw [if_pos ⟨h, by omega⟩]
      simp only [List.drop_zero, List.nil_append, List.filter_filter]
      congr 4 <;> (funext k; cases pa a k <;> cases pa b k <;> rfl)
  · have ho : ord a b = [] := by
      unfold ord
      rw [if_neg (fun q => h q.1)]
    rw [changes_ne a b h, Option.bind_some, ho]
    split
    · rfl
    · rw [spec_OrderTo.vl0_eq, if_neg (by simp), spec_OrderTo.vl1_eq, if_neg (by simp)]
theorem impl_loop (a b : List Bool) (h : a.length = b.length) (hl : a.length ≤ 10) (d : Nat) : ∀ (i : Nat) (x y : List S81), i + d = a.length → x.length ≤ i → y.length ≤ i →
    impl_OrderTo.vl0 a b x y (a.length : Int) (i : Int) = some ((x ++ ((R i a.length).filter (fun k => pa a k && !pa b k)).map off) ++ (y ++ ((R i a.length).filter (fun k => pa b k && !pa a k)).map on)) := by
  induction d with
  | zero =>
    intro i x y hi hx hy
    rw [impl_OrderTo.vl0_eq, if_neg (by omega), if_pos (by omega), R_end (by omega)]
    simp
  | succ d ih =>
    intro i x y hi hx hy
    have e : ((i : Int) + 1) = ((i + 1 : Nat) : Int) := by omega
    have r0 : (0 : Int) ≤ (i : Int) := by omega
    have ra : (i : Int) < (a.length : Int) := by omega
    have rb : (i : Int) < (b.length : Int) := by omega
    have i1 := ih (i + 1) (x ++ [off i]) y (by omega) (by simp; omega) (by omega)
    have i2 := ih (i + 1) x (y ++ [on i]) (by omega) (by omega) (by simp; omega)
    have i3 := ih (i + 1) x y (by omega) (by omega) (by omega)
    rw [impl_OrderTo.vl0_eq, if_pos ra, if_pos r0, if_pos ra, if_pos rb, impl_OrderTo.vj2_eq, impl_OrderTo.vj2_eq, w64 (by omega), e, R_cons (show i < a.length by omega), List.filter_cons, List.filter_cons]
    simp only [off, on, pa] at *
    rcases Bool.eq_false_or_eq_true (rdOf false a (i : Int)) with h1 | h1 <;> rcases Bool.eq_false_or_eq_true (rdOf false b (i : Int)) with h2 | h2 <;> simp only [h1, h2, Bool.not_true, Bool.not_false, Bool.and_true, Bool.and_false, Bool.true_and, Bool.false_and, Bool.false_eq_true, if_true, if_false, r0, ra, rb]
    · exact i3
    · rw [if_pos (by omega), i1]
      simp [off]
    · rw [if_pos (by omega), i2]
      simp [on]
    · exact i3
theorem impl_val (a b : List Bool) : impl_OrderTo.v a b = some (ord a b) := by
  rw [impl_OrderTo.v_eq]
  by_cases h : a.length = b.length
  · rw [if_pos (by omega), impl_OrderTo.vj0_eq]
    by_cases h10 : (a.length : Int) > 10
    · rw [if_pos (by simpa using h10)]
      unfold ord
      rw [if_neg (by omega)]
    · rw [if_neg (by simpa using h10)]
      have := impl_loop a b h (by omega) a.length 0 [] [] (by omega) (by simp) (by simp)
      unfold ord
      rw [if_pos ⟨h, by omega⟩]
      simpa using this
  · rw [if_neg (by omega), impl_OrderTo.vj0_eq, if_pos rfl]
    unfold ord
    rw [if_neg (by omega)]
theorem ord_len (a b : List Bool) : (ord a b).length ≤ 20 := by
  unfold ord
  split
  · have h1 := len_filter_R (fun k => pa a k && !pa b k) 0 a.length
    have h2 := len_filter_R (fun k => pa b k && !pa a k) 0 a.length
    simp only [List.length_append, List.length_map]
    omega
  · simp

theorem FnExactOrderTo : ∀ (x0 : List Bool) (x1 : List Bool), x0.length ≤ maxLen → x1.length ≤ maxLen → ∃ k, laws_FnExactOrderTo.f k x0 x1 = some true := by
  intro a b ha hb
  refine (laws_FnExactOrderTo.L a b).rounds ?_
  rw [laws_FnExactOrderTo.v_eq]
  by_cases h1 : (a.length : Int) > 1048576
  · rw [if_pos h1]
  · rw [if_neg h1]
    by_cases h2 : (b.length : Int) > 1048576
    · rw [if_pos h2]
    · rw [if_neg h2]
      have hl := ord_len a b
      obtain ⟨y1, m1⟩ := laws_markBoolS.val a 1 (by omega) (by omega) (by omega)
      obtain ⟨y2, m2⟩ := laws_markBoolS.val b (1 + 1 * a.length) (by omega) (by omega) (by omega)
      obtain ⟨y3, m3, m4⟩ := laws_markStepS.val (ord a b) 1 (by omega) (by omega) (by omega)
      simp only [laws_toBoolS.val a (by omega), laws_toBoolS.val b (by omega), Option.bind_some, spec_val a b (by omega), impl_val, laws_eqStepS.val (ord a b) (by omega), laws_eqBoolS.val a (by omega), laws_eqBoolS.val b (by omega), if_true, m1, m2]
      rw [if_neg (by omega), laws_FnExactOrderTo.vj0_eq, if_neg (by decide)]
      simp only [m3, m4, Option.bind_some, laws_toBoolS.val a (by omega), laws_toBoolS.val b (by omega), impl_val, laws_eqStepS.val (ord a b) (by omega), if_true]
      rw [if_neg (by omega), if_neg (by omega)]

end Go.Proofs.Ytfdmoiaeclkdcaa.Pure
