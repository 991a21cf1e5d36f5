/- Proved here: DatesDays as the print tells it, over numbers alone, for any date, number of 16 bits and period; and its walk. -/
import Derived.Test.YtkfhclichfjhmaaPAx8
import Derived.Test.YtkfhclichfjhmaaDy
namespace Go.Proofs.Ytkfhclichfjhmaa.Pure
open Go.RowKit Go.Proofs.Ytkfhclichfjhmaa.PA Go.Proofs.YtkfhclichfjhmaaW.PrintWords Go.Proofs.YtkfhclichfjhmaaW.PrintLast
open Go.Proofs.Ytkfhclichfjhmaa.Dt

theorem refright_eq' {k : Nat} (hk : 2 ≤ k) (y m d : Int) : paymasterref06_Right.f k y m d = some (decide (1 ≤ d ∧ d ≤ len y m)) := by
  unfold paymasterref06_Right.f
  by_cases h : d > 0
  · rw [if_pos h, reflen_eq (by omega)]
    simp only [Option.bind_some]
    congr 1
    by_cases h2 : d ≤ len y m
    · rw [decide_eq_true h2, decide_eq_true ⟨by omega, h2⟩]
    · rw [decide_eq_false h2, decide_eq_false (fun e => h2 e.2)]
  · rw [if_neg h, decide_eq_false (fun e => h (by omega))]

/-- How many of the i days from number n on lie in a period. -/
def cnt (p n i : Int) : Int := if 22800 ≤ p ∧ p < 36000 then span n (n + i - 1) (p / 12) (p % 12 + 1) else 0
theorem cnt_bd {p n i : Int} (hi : 0 ≤ i) : 0 ≤ cnt p n i ∧ cnt p n i ≤ i := by
  unfold cnt span
  split
  · split <;> omega
  · omega
theorem cnt_step {p n i y m d : Int} (hi : 0 ≤ i) (h1 : 1 ≤ d) (h2 : d ≤ len y m) (e : num y m d = n + i) : cnt p n (i + 1) = cnt p n i + (if 12 * y + m - 1 = p then 1 else 0) := by
  obtain ⟨a, b, c, g, f⟩ := len_in h1 h2
  unfold cnt
  by_cases hp : 22800 ≤ p ∧ p < 36000
  · rw [if_pos hp, if_pos hp]
    have z := in_month (Y := p / 12) (M := p % 12 + 1) h1 h2 (by omega) (by omega) (by omega) (by omega)
    rw [e] at z
    by_cases q : 12 * y + m - 1 = p
    · rw [if_pos q]
      have y' := z.2 ⟨by omega, by omega⟩
      unfold span
      split <;> split <;> omega
    · rw [if_neg q]
      have y' : ¬ (num (p / 12) (p % 12 + 1) 1 ≤ n + i ∧ n + i ≤ num (p / 12) (p % 12 + 1) 1 + len (p / 12) (p % 12 + 1) - 1) := fun u => by
        have := z.1 u
        omega
      unfold span
      split <;> split <;> omega
  · rw [if_neg hp, if_neg hp, if_neg (by omega)]
    rfl

theorem days_loop {fy fm fd x1 p n D : Int} (g1 : 1 ≤ fd) (g2 : fd ≤ len fy fm) (gn : num fy fm fd = n) (b1 : 0 ≤ x1) (hD : x1 % 800 = D) (bn : n + 800 ≤ 401766) (e : Nat) : ∀ (k : Nat) (i y m d : Int), 1 ≤ i → 1 ≤ d → d ≤ len y m → num y m d = n + i - 1 → D + 1 - i = e → e + 1300 ≤ k →
    paymasterlaw06_DatesDays.l0 k x1 p (cnt p n i) i fy fm fd y m d = some true := by
  induction e with
  | zero =>
    intro k i y m d hi h1 h2 hn he hk
    obtain ⟨k, rfl⟩ : ∃ j, k = j + 1 := ⟨k - 1, by omega⟩
    simp only [paymasterlaw06_DatesDays.l0]
    rw [tm b1, w64 (by omega) (by omega), if_neg (by omega)]
    by_cases hp : 22800 ≤ p ∧ p < 36000
    · rw [days_yes (by omega) g1 g2 h1 h2 hp.1 hp.2]
      simp only [Option.bind_some]
      rw [if_pos (by unfold cnt; rw [if_pos hp, gn, hn]), awake_eq (by omega)]
      rfl
    · rw [days_far (by omega) _ _ _ _ _ _ (by omega)]
      simp only [Option.bind_some]
      rw [if_pos (by unfold cnt; rw [if_neg hp]), awake_eq (by omega)]
      rfl
  | succ e ih =>
    intro k i y m d hi h1 h2 hn he hk
    obtain ⟨k, rfl⟩ : ∃ j, k = j + 1 := ⟨k - 1, by omega⟩
    obtain ⟨n1, n2, n3⟩ := next_num h1 h2 (by omega)
    obtain ⟨a, b, c, g, f⟩ := len_in n1 n2
    have cb := cnt_bd (p := p) (n := n) (i := i) (by omega)
    have s := cnt_step (p := p) (n := n) (i := i) (by omega) n1 n2 (by rw [n3]; omega)
    simp only [paymasterlaw06_DatesDays.l0]
    rw [tm b1, w64 (x := x1 % 800) (by omega) (by omega), if_pos (by omega), if_pos (by omega), next_eq (by omega) h1 h2]
    simp only [Option.bind_some]
    rw [w64 (x := 12 * (next y m d).1) (by omega) (by omega), w64 (x := 12 * (next y m d).1 + (next y m d).2.1) (by omega) (by omega), w64 (x := 12 * (next y m d).1 + (next y m d).2.1 - 1) (by omega) (by omega), w64 (x := i + 1) (by omega) (by omega), w64 (x := cnt p n i + 1) (by omega) (by omega)]
    by_cases q : 12 * (next y m d).1 + (next y m d).2.1 - 1 = p
    · rw [if_pos q] at s ⊢
      rw [← s]
      exact ih k (i + 1) _ _ _ (by omega) n1 n2 (by rw [n3]; omega) (by omega) (by omega)
    · rw [if_neg q] at s ⊢
      rw [Int.add_zero] at s
      rw [← s]
      exact ih k (i + 1) _ _ _ (by omega) n1 n2 (by rw [n3]; omega) (by omega) (by omega)

theorem DatesDays (y m d a1 p : Int) (b1 : 0 ≤ a1) : ∃ k, paymasterlaw06_DatesDays.f k y m d a1 p = some true := by
  obtain ⟨k, hk⟩ : ∃ k : Nat, 2400 ≤ k := ⟨2400, Nat.le_refl _⟩
  refine ⟨k, ?_⟩
  unfold paymasterlaw06_DatesDays.f
  rw [refright_eq' (by omega)]
  simp only [Option.bind_some, decide_eq_true_eq]
  obtain ⟨k, rfl⟩ : ∃ j, k = j + 1 := ⟨k - 1, by omega⟩
  by_cases h : 1 ≤ d ∧ d ≤ len y m
  · rw [if_pos h]
    obtain ⟨h1, h2⟩ := h
    obtain ⟨a, b, c, e, f⟩ := len_in h1 h2
    by_cases q : y > 2990
    · simp only [paymasterlaw06_DatesDays.j0]
      rw [decide_eq_true q, if_pos rfl, refright_eq' (by omega), decide_eq_true (⟨h1, h2⟩ : 1 ≤ d ∧ d ≤ len y m)]
      simp only [Option.bind_some, if_true]
      rw [awake_eq (by omega)]
      rfl
    · simp only [paymasterlaw06_DatesDays.j0]
      rw [decide_eq_false q, if_neg (by simp)]
      obtain ⟨k, rfl⟩ : ∃ j, k = j + 1 := ⟨k - 1, by omega⟩
      have A1 : A 2991 = 398480 := by decide
      have A2 := A_mono (y := y + 1) (z := 2991) (by omega)
      have A3 := A_succ y
      have c1 := cum_lt (y := y) (m := m) (n := 13) a b c (by omega) (by omega)
      have c2 := cum_top y
      have bn : num y m d + 800 ≤ 401766 := by unfold num; omega
      have s := cnt_step (p := p) (n := num y m d) (i := 0) (by omega) h1 h2 (by omega)
      have z : cnt p (num y m d) 0 = 0 := by have := cnt_bd (p := p) (n := num y m d) (i := 0) (by omega); omega
      have L := days_loop (x1 := a1) (p := p) (D := a1 % 800) h1 h2 rfl b1 rfl bn (a1 % 800).toNat k 1 y m d (by omega) h1 h2 (by omega) (by omega) (by omega)
      simp only [paymasterlaw06_DatesDays.l0]
      rw [tm b1, w64 (x := a1 % 800) (by omega) (by omega), if_pos (by omega), if_neg (by omega)]
      rw [w64 (x := 12 * y) (by omega) (by omega), w64 (x := 12 * y + m) (by omega) (by omega), w64 (x := 12 * y + m - 1) (by omega) (by omega), w64 (x := 0 + 1) (by omega) (by omega)]
      rw [z, Int.zero_add, Int.zero_add] at s
      rw [s] at L
      by_cases t : 12 * y + m - 1 = p
      · rw [if_pos t] at L ⊢
        exact L
      · rw [if_neg t] at L ⊢
        exact L
  · rw [if_neg h]
    simp only [paymasterlaw06_DatesDays.j0, if_true]
    rw [refright_eq' (by omega), decide_eq_false h, days_no (by omega) _ _ _ _ h]
    simp only [Option.bind_some, if_true, Bool.false_eq_true, if_false]
    rw [awake_eq (by omega)]
    rfl
theorem DatesDays_walk (y m d a1 p : Int) (w : World) (_ : (Lit.int .i64 y).wf = true) (_ : (Lit.int .i64 m).wf = true) (_ : (Lit.int .i64 d).wf = true) (w1 : (Lit.int .u16 a1).wf = true) (_ : (Lit.int .i64 p).wf = true) :
    Calls Try.prog 7 #[.agg #[.int .i64 y, .int .i64 m, .int .i64 d], .int .u16 a1, .int .i64 p] w fun e w' => e = .returned (.bool true) ∧ Below w.heap.size w w' := by
  obtain ⟨k, h⟩ := DatesDays y m d a1 p (wf_u16 w1).1
  exact paymasterlaw06_DatesDays.calls k y m d a1 p true w h
end Go.Proofs.Ytkfhclichfjhmaa.Pure
