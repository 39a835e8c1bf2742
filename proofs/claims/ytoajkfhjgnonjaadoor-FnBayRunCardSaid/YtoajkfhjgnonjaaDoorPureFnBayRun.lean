/- The pure statement of FnBayRun: what the printed functions compute answers true. -/
import Derived.Test.YtoajkfhjgnonjaaDoorGx23
import Derived.Test.YtoajkfhjgnonjaaDoorV23
import Derived.Test.YtoajkfhjgnonjaaDoorDraw
import Derived.Test.YtoajkfhjgnonjaaDoorAlive
import Derived.Test.YtoajkfhjgnonjaaDoorDrawBay
import Derived.Test.YtoajkfhjgnonjaaDoorBayVal
namespace Go.Proofs.YtoajkfhjgnonjaaDoor.Pure
open Go.RowKit Go.Proofs.YtoajkfhjgnonjaaDoor.G Go.Proofs.YtoajkfhjgnonjaaDoorW.PrintWords Go.Proofs.YtoajkfhjgnonjaaDoorW.PrintLast Go.Proofs.YtoajkfhjgnonjaaDoor.Op

set_option linter.unusedSimpArgs false
set_option linter.unusedVariables false
def mayB (s : By) (x : Int) : Bool := match spec_BayMay.f s.1 s.2.1 s.2.2.1 s.2.2.2 x with
  | some t => t
  | none => false
theorem spec_may (s : By) (x : Int) : spec_BayMay.f s.1 s.2.1 s.2.2.1 s.2.2.2 x = some (mayB s x) := by
  unfold mayB
  by_cases h : 0 ≤ x ∧ x ≤ 7
  · simp [spec_BayMay.f, h]
  · simp [spec_BayMay.f, h]
def nxt (x : Int) : Int := Int.tmod (wrap64 (x + 1)) 8
def iter : Nat → Int → Int
  | 0, x => x
  | n + 1, x => iter n (nxt x)
theorem finds (s : By) (x : Int) (h : -1 ≤ x ∧ x ≤ 8) : ∃ n, mayB s (iter n x) = true := by
  have h8 : x = -1 ∨ x = 0 ∨ x = 1 ∨ x = 2 ∨ x = 3 ∨ x = 4 ∨ x = 5 ∨ x = 6 ∨ x = 7 ∨ x = 8 := by omega
  have key : ∀ a b c d : Bool, ∀ i : Fin 10, ∃ n : Fin 12, mayB (a, b, c, d) (iter n.1 ((i.1 : Int) - 1)) = true := by decide +kernel
  obtain ⟨a, b, c, d⟩ := s
  obtain ⟨n, hn⟩ := key a b c d ⟨(x + 1).toNat, by omega⟩
  refine ⟨n.1, ?_⟩
  have e : (((x + 1).toNat : Nat) : Int) - 1 = x := by omega
  rw [e] at hn
  exact hn
theorem nxt_in (x : Int) (h : -1 ≤ x ∧ x ≤ 8) : -1 ≤ nxt x ∧ nxt x ≤ 8 := by
  have h8 : x = -1 ∨ x = 0 ∨ x = 1 ∨ x = 2 ∨ x = 3 ∨ x = 4 ∨ x = 5 ∨ x = 6 ∨ x = 7 ∨ x = 8 := by omega
  rcases h8 with rfl | rfl | rfl | rfl | rfl | rfl | rfl | rfl | rfl | rfl <;> decide +kernel
/-- Deeds as they are drawn: each in its bounds. -/
def Deeds (l : List Int) : Prop := ∀ y ∈ l, -1 ≤ y ∧ y ≤ 8
theorem Deeds.set {l : List Int} (h : Deeds l) (i : Nat) (x : Int) (hx : -1 ≤ x ∧ x ≤ 8) : Deeds (l.set i x) := by
  intro y hy
  rcases List.mem_or_eq_of_mem_set hy with h1 | h1
  · exact h y h1
  · exact h1 ▸ hx
theorem search (b : List Int) (p : Int) (a s : By) (n : Nat) : ∀ (l : List Int) (i : Nat) (hi : i < l.length), Deeds l → l.length ≤ 100 → mayB s (iter n l[i]) = true →
    ∃ (l2 : List Int) (s2 : By), l2.length = l.length ∧ Deeds l2 ∧ spec_DrawBayRun.vl1 l (i : Int) b p a.1 a.2.1 a.2.2.1 a.2.2.2 s.1 s.2.1 s.2.2.1 s.2.2.2 = spec_DrawBayRun.vl0 l2 ((i + 1 : Nat) : Int) b p a.1 a.2.1 a.2.2.1 a.2.2.2 s2.1 s2.2.1 s2.2.2.1 s2.2.2.2 := by
  induction n with
  | zero =>
    intro l i hi hd hl hm
    refine ⟨l, (doB s l[i]).1, rfl, hd, ?_⟩
    simp only [iter] at hm
    rw [spec_DrawBayRun.vl1_eq, if_pos (by omega), if_pos (by omega), rd_nat l i hi, spec_may, Option.bind_some, if_pos hm, spec_do, Option.bind_some, w64 (by omega), show ((i : Int) + 1) = ((i + 1 : Nat) : Int) by omega]
  | succ n ih =>
    intro l i hi hd hl hm
    by_cases c : mayB s l[i] = true
    · refine ⟨l, (doB s l[i]).1, rfl, hd, ?_⟩
      rw [spec_DrawBayRun.vl1_eq, if_pos (by omega), if_pos (by omega), rd_nat l i hi, spec_may, Option.bind_some, if_pos c, spec_do, Option.bind_some, w64 (by omega), show ((i : Int) + 1) = ((i + 1 : Nat) : Int) by omega]
    · have hx := nxt_in _ (hd l[i] (List.getElem_mem _))
      obtain ⟨l2, s2, h1, h2, h3⟩ := ih (l.set i (nxt l[i])) i (by simpa using hi) (hd.set i _ hx) (by simpa using hl) (by simpa [iter] using hm)
      refine ⟨l2, s2, by simpa using h1, h2, ?_⟩
      rw [spec_DrawBayRun.vl1_eq, if_pos (by omega), if_pos (by omega), rd_nat l i hi, spec_may, Option.bind_some, if_neg c, Int.toNat_natCast]
      exact h3
theorem draw_run (b : List Int) (r : Rd b) (a : By) (d : Nat) : ∀ (l : List Int) (i : Nat) (p : Int) (s : By), i + d = l.length → Deeds l → l.length ≤ 100 → 0 ≤ p → p + d ≤ 1000000 →
    ∃ l2, l2.length = l.length ∧ Deeds l2 ∧ spec_DrawBayRun.vl0 l (i : Int) b p a.1 a.2.1 a.2.2.1 a.2.2.2 s.1 s.2.1 s.2.2.1 s.2.2.2 = some (a.1, a.2.1, a.2.2.1, a.2.2.2, l2) := by
  induction d with
  | zero =>
    intro l i p s hi hd hl hp hp2
    refine ⟨l, rfl, hd, ?_⟩
    rw [spec_DrawBayRun.vl0_eq, if_neg (by omega), spec_DrawBayRun.vj1_eq, if_neg (by simp)]
  | succ d ih =>
    intro l i p s hi hd hl hp hp2
    obtain ⟨x, hx, _⟩ := pick b p 4 r hp (by omega) (by omega)
    rw [spec_DrawBayRun.vl0_eq, if_pos (by omega), hx, Option.bind_some, spec_DrawBayRun.vj1_eq]
    by_cases c : x > 0
    · rw [if_pos (by simpa using c)]
      obtain ⟨n, hn⟩ := finds s (l[i]'(by omega)) (hd _ (List.getElem_mem _))
      obtain ⟨l2, s2, h1, h2, h3⟩ := search b (p + 1) a s n l i (by omega) hd hl hn
      obtain ⟨l3, h4, h5, h6⟩ := ih l2 (i + 1) (p + 1) s2 (by omega) h2 (by omega) (by omega) (by omega)
      exact ⟨l3, by omega, h5, by rw [h3]; exact h6⟩
    · rw [if_neg (by simpa using c)]
      exact ⟨l, rfl, hd, rfl⟩
theorem deeds_loop (b : List Int) (r : Rd b) (m : Nat) : ∀ (l : List Int) (p : Int), l.length + m ≤ 50 → Deeds l → 0 ≤ p → p + 2 * m ≤ 1000000 → ∃ l2 q, spec_l20Deeds.vl0 l (m : Int) b p = some (l2, q) ∧ l2.length ≤ 50 ∧ Deeds l2 ∧ 0 ≤ q ∧ q ≤ p + 2 * m := by
  induction m with
  | zero =>
    intro l p hl hd hp hp2
    rw [spec_l20Deeds.vl0_eq, if_neg (by omega)]
    exact ⟨l, p, rfl, by omega, hd, hp, by omega⟩
  | succ m ih =>
    intro l p hl hd hp hp2
    rw [spec_l20Deeds.vl0_eq, if_pos (by omega)]
    obtain ⟨x1, h1, g1, g2⟩ := pick b p 9 r hp (by omega) (by omega)
    obtain ⟨x2, h2, g3, g4⟩ := pick b (p + 1) 9 r (by omega) (by omega) (by omega)
    have g5 := g2 (by omega)
    have g6 := g4 (by omega)
    have e1 : 0 ≤ Int.tdiv x2 8 := Int.tdiv_nonneg g3 (by omega)
    have e2 : Int.tdiv x2 8 ≤ 1 := by
      have : x2 = 0 ∨ x2 = 1 ∨ x2 = 2 ∨ x2 = 3 ∨ x2 = 4 ∨ x2 = 5 ∨ x2 = 6 ∨ x2 = 7 ∨ x2 = 8 := by omega
      rcases this with rfl | rfl | rfl | rfl | rfl | rfl | rfl | rfl | rfl <;> decide +kernel
    rw [h1]
    simp only [Option.bind_some, h2]
    rw [if_pos (by omega), w64 (n := Int.tdiv x2 8) (by omega), w64 (n := x1 - Int.tdiv x2 8) (by omega), w64 (n := ((m + 1 : Nat) : Int) - 1) (by omega), show ((m + 1 : Nat) : Int) - 1 = (m : Int) by omega]
    obtain ⟨l2, q, h3, h4, h5, h6, h7⟩ := ih (l ++ [x1 - Int.tdiv x2 8]) (p + 1 + 1) (by simp; omega) (by
      intro y hy
      rcases List.mem_append.1 hy with h | h
      · exact hd y h
      · rw [List.mem_singleton.1 h]
        omega) (by omega) (by omega)
    exact ⟨l2, q, h3, h4, h5, h6, by omega⟩
theorem drawn (x : List Int) (hx : ∀ y ∈ x, (Lit.int .u8 y).wf = true) : ∃ (a : By) (l : List Int), spec_DrawBayRun.v x = some (a.1, a.2.1, a.2.2.1, a.2.2.2, l) ∧ l.length ≤ 50 ∧ Deeds l := by
  rw [spec_DrawBayRun.v_eq]
  obtain ⟨b, hb, r⟩ := open_of x hx
  obtain ⟨y1, y2, y3, y4, h⟩ := bay b 0 r (by omega) (by omega)
  obtain ⟨m, h1, h2, h3⟩ := pick b (0 + 1) 9 r (by omega) (by omega) (by omega)
  have h4 := h3 (by omega)
  obtain ⟨m, rfl⟩ := Int.eq_ofNat_of_zero_le h2
  obtain ⟨l2, q, h5, h6, h7, h8, h9⟩ := deeds_loop b r m [] (0 + 1 + 1) (by simp; omega) (fun y hy => by simp at hy) (by omega) (by omega)
  obtain ⟨l3, h10, h11, h12⟩ := draw_run b r (y1, y2, y3, y4) l2.length l2 0 q (y1, y2, y3, y4) (by omega) h7 (by omega) h8 (by omega)
  refine ⟨(y1, y2, y3, y4), l3, ?_, by omega, h11⟩
  rw [hb]
  simp only [Option.bind_some, h, spec_l20Deeds.v_eq, h1, h5]
  exact h12
/-- A bay is safe: no line side closed onto an earth. -/
def safeB (s : By) : Bool := if s.2.2.1 = true then !s.2.2.2 else true
theorem impl_safe (s : By) : impl_BaySafe.f s.1 s.2.1 s.2.2.1 s.2.2.2 = some (safeB s) := by
  unfold impl_BaySafe.f safeB
  split <;> rfl
def backB (x : Int) : Int := wrap64 ((wrap64 (x + 1)) - (wrap64 (2 * (Int.tmod x 2))))
theorem done_in (s : By) (x : Int) (h : (doB s x).2 = true) : 0 ≤ x ∧ x ≤ 7 := by
  by_cases c : 0 ≤ x ∧ x ≤ 7
  · exact c
  · have : (doB s x).2 = false := by
      unfold doB
      simp [spec_BayDo.f, spec_BayMay.f, c]
    rw [this] at h
    cases h
theorem step_facts (s : By) (x : Int) (h : (doB s x).2 = true) (hs : safeB s = true) : safeB (doB s x).1 = true ∧ doB (doB s x).1 (backB x) = (s, true) := by
  have c := done_in s x h
  have key : ∀ a b c d : Bool, ∀ i : Fin 8, (doB (a, b, c, d) (i.1 : Int)).2 = true → safeB (a, b, c, d) = true → safeB (doB (a, b, c, d) (i.1 : Int)).1 = true ∧ doB (doB (a, b, c, d) (i.1 : Int)).1 (backB (i.1 : Int)) = ((a, b, c, d), true) := by decide +kernel
  obtain ⟨a, b, c2, d⟩ := s
  have e : ((x.toNat : Nat) : Int) = x := by omega
  have k := key a b c2 d ⟨x.toNat, by omega⟩
  simp only [e] at k
  exact k h hs
theorem run_le (l : List Int) : ∀ s, (runB s l).2 ≤ l.length := by
  induction l with
  | nil => intro s; simp [runB]
  | cons x l ih =>
    intro s
    simp only [runB]
    split
    · have := ih (doB s x).1
      simp
      omega
    · simp
theorem run_take (l : List Int) : ∀ s, runB s (l.take (runB s l).2) = runB s l := by
  induction l with
  | nil => intro s; simp [runB]
  | cons x l ih =>
    intro s
    by_cases c : (doB s x).2 = true
    · have e : (runB s (x :: l)).2 = (runB (doB s x).1 l).2 + 1 := by simp only [runB]; rw [if_pos c]
      rw [e, List.take_succ_cons]
      simp only [runB]
      rw [if_pos c, if_pos c, ih]
    · have e : (runB s (x :: l)).2 = 0 := by simp only [runB]; rw [if_neg c]
      rw [e, List.take_zero]
      simp only [runB]
      rw [if_neg c]
theorem run_safe (l : List Int) : ∀ s, safeB s = true → safeB (runB s l).1 = true := by
  induction l with
  | nil => intro s h; simpa [runB] using h
  | cons x l ih =>
    intro s h
    simp only [runB]
    by_cases c : (doB s x).2 = true
    · rw [if_pos c]
      exact ih _ (step_facts s x c h).1
    · rw [if_neg c]
      exact h
theorem run_app (l1 : List Int) : ∀ (s : By) (l2 : List Int), (runB s l1).2 = l1.length → runB s (l1 ++ l2) = ((runB (runB s l1).1 l2).1, l1.length + (runB (runB s l1).1 l2).2) := by
  induction l1 with
  | nil => intro s l2 _; simp [runB]
  | cons x l ih =>
    intro s l2 h
    simp only [runB] at h
    by_cases c : (doB s x).2 = true
    · rw [if_pos c] at h
      simp only [List.cons_append, runB]
      rw [if_pos c, if_pos c, ih _ l2 (by simpa using h)]
      simp
      omega
    · rw [if_neg c] at h
      simp at h
theorem run_back (l : List Int) : ∀ s, safeB s = true → runB (runB s l).1 ((l.take (runB s l).2).map backB).reverse = (s, (runB s l).2) := by
  induction l with
  | nil => intro s _; simp [runB]
  | cons x l ih =>
    intro s h
    by_cases c : (doB s x).2 = true
    · have e : runB s (x :: l) = ((runB (doB s x).1 l).1, (runB (doB s x).1 l).2 + 1) := by simp only [runB]; rw [if_pos c]
      have f := step_facts s x c h
      have g := ih _ f.1
      have n := run_le l (doB s x).1
      rw [e, List.take_succ_cons, List.map_cons, List.reverse_cons, run_app _ _ _ (by rw [g]; simp; omega), g]
      simp only [runB, f.2]
      simp
      omega
    · have e : runB s (x :: l) = (s, 0) := by simp only [runB]; rw [if_neg c]
      rw [e]
      simp [runB]
theorem undo_loop (l : List Int) (m : Nat) (many all : Int) (b s z : By) (hl : l.length ≤ 100) : ∀ (k : Nat) (x : List Int), k ≤ l.length → x.length + k ≤ 200 →
    laws_FnBayRun.vl0 l many all x ((k : Int) - 1) b.1 b.2.1 b.2.2.1 b.2.2.2 s.1 s.2.1 s.2.2.1 s.2.2.2 z.1 z.2.1 z.2.2.1 z.2.2.2 = laws_FnBayRun.vl0 l many all (x ++ ((l.take k).map backB).reverse) (-1) b.1 b.2.1 b.2.2.1 b.2.2.2 s.1 s.2.1 s.2.2.1 s.2.2.2 z.1 z.2.1 z.2.2.1 z.2.2.2 := by
  intro k
  induction k with
  | zero =>
    intro x hk hx
    simp
  | succ k ih =>
    intro x hk hx
    rw [laws_FnBayRun.vl0_eq, if_pos (by omega), if_pos (by omega), if_pos (by omega), if_pos (by omega), show ((k + 1 : Nat) : Int) - 1 = (k : Int) by omega, rd_nat l k (by omega), w64 (n := (k : Int) - 1) (by omega), ih _ (by omega) (by simp; omega), List.take_succ_eq_append_getElem (by omega)]
    simp only [List.map_append, List.map_cons, List.map_nil, List.reverse_append, List.reverse_cons, List.reverse_nil, List.nil_append, List.append_assoc, backB]

theorem FnBayRun : ∀ (x0 : List Int), x0.length ≤ maxLen → (∀ y ∈ x0, (Lit.int .u8 y).wf = true) → ∃ k, laws_FnBayRun.f k x0 = some true := by
  intro x _ hx
  refine (laws_FnBayRun.L x).rounds ?_
  rw [laws_FnBayRun.v_eq]
  by_cases c : (x.length : Int) > 1048576
  · rw [if_pos c]
  obtain ⟨b, l, hd, hl, hdl⟩ := drawn x hx
  rw [if_neg c, hd]
  simp only [Option.bind_some]
  rw [impl_run b l (by omega), spec_run b l (by omega)]
  simp only [Option.bind_some, beq_self_eq_true, Bool.not_true, Bool.or_self, Bool.false_eq_true, if_false, bne_self_eq_false]
  have hn := run_le l b
  have ht := run_take l b
  rw [laws_FnBayRun.vj0_eq, if_neg (by simp), if_neg (by omega), if_neg (by omega), impl_safe b, Option.bind_some]
  have key : laws_FnBayRun.vj1 l ((runB b l).2 : Int) false b.1 b.2.1 b.2.2.1 b.2.2.2 (runB b l).1.1 (runB b l).1.2.1 (runB b l).1.2.2.1 (runB b l).1.2.2.2 = some true := by
    rw [laws_FnBayRun.vj1_eq, if_neg (by simp), if_pos (by omega), if_pos (by omega), Int.toNat_natCast, impl_run b _ (by simp; omega), Option.bind_some, ht, w64 (by omega)]
    have u := undo_loop l 0 ((runB b l).2 : Int) ((runB b l).2 : Int) b (runB b l).1 (runB b l).1 (by omega) (runB b l).2 [] (by omega) (by simp; omega)
    rw [u, laws_FnBayRun.vl0_eq, if_neg (by omega), List.nil_append, impl_run _ _ (by simp; omega), Option.bind_some, if_pos (by simp), if_pos rfl, impl_safe b, Option.bind_some, alive]
    by_cases s : safeB b = true
    · rw [if_pos s, run_back l b s]
      simp
    · rw [if_neg s]
      simp
  by_cases s : safeB b = true
  · rw [if_pos s, impl_safe (runB b l).1, Option.bind_some, run_safe l b s]
    exact key
  · rw [if_neg s]
    exact key

end Go.Proofs.YtoajkfhjgnonjaaDoor.Pure
