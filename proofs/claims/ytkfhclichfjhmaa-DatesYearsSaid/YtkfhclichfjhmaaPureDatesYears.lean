/- Proved here: DatesYears as the print tells it, over numbers alone, for any number of 16 bits. -/
import Derived.Test.YtkfhclichfjhmaaPAx9
import Derived.Test.YtkfhclichfjhmaaDy
namespace Go.Proofs.Ytkfhclichfjhmaa.Pure
open Go.RowKit Go.Proofs.Ytkfhclichfjhmaa.PA Go.Proofs.YtkfhclichfjhmaaW.PrintWords Go.Proofs.YtkfhclichfjhmaaW.PrintLast
open Go.Proofs.Ytkfhclichfjhmaa.Dt

/-- Of a month of the year all days lie between the year's first and last one. -/
theorem span_year {y m : Int} (a : 1900 ≤ y) (b : y ≤ 2999) (c : 1 ≤ m) (e : m ≤ 12) : span (num y 1 1) (num y 12 31) y m = len y m := by
  have ll := len_lo a b c e
  have s := cum_succ a b c e
  have t := cum_mono a b (m := 1) (by omega) (m - 1).toNat (by omega)
  rw [show (1 : Int) + ((m - 1).toNat : Int) = m by omega] at t
  have u := cum_mono a b (m := m + 1) (by omega) (12 - m).toNat (by omega)
  rw [show m + 1 + ((12 - m).toNat : Int) = 13 by omega, cum_top] at u
  have v : cum y 12 = lp y + 334 := by simp [cum]
  unfold span num
  rw [v]
  split <;> omega
theorem years_loop {y : Int} (a : 1900 ≤ y) (b : y ≤ 2999) (d : Nat) : ∀ (k : Nat) (m : Int), 1 ≤ m → 13 - m = d → d + 1300 ≤ k →
    paymasterlaw06_DatesYears.l0 k y (num y 1 1) true (num y 12 31) true (cum y m) m y 1 1 y 12 31 = some true := by
  have l1 : len y 1 = 31 := by unfold len; rw [if_pos ⟨a, b⟩]; rfl
  have l12 : len y 12 = 31 := by unfold len; rw [if_pos ⟨a, b⟩]; rfl
  have lpb := lp_bd y
  have b1 := num_bd (y := y) (m := 1) (d := 1) (by omega) (by omega)
  have b2 := num_bd (y := y) (m := 12) (d := 31) (by omega) (by omega)
  have v : cum y 12 = lp y + 334 := by simp [cum]
  have v1 : cum y 1 = 0 := by simp [cum]
  induction d with
  | zero =>
    intro k m hm hd hk
    obtain ⟨k, rfl⟩ : ∃ j, k = j + 1 := ⟨k - 1, by omega⟩
    obtain rfl : m = 13 := by omega
    have e : cum y 13 = num y 12 31 - num y 1 1 + 1 := by rw [cum_top]; unfold num; omega
    have z : ∀ p : Int, (p < 22800 ∨ 36000 ≤ p ∨ (y ≠ p / 12 ∧ 0 ≤ p)) → dates_Days.f k y 1 1 y 12 31 p = some 0 := by
      intro p hp
      by_cases q : p < 22800 ∨ 36000 ≤ p
      · exact days_far (by omega) _ _ _ _ _ _ q
      · rw [days_yes (by omega) (by omega) (by omega) (by omega) (by omega) (by omega) (by omega)]
        congr 1
        have ll := len_lo (y := p / 12) (m := p % 12 + 1) (by omega) (by omega) (by omega) (by omega)
        have f : num (p / 12) (p % 12 + 1) (len (p / 12) (p % 12 + 1)) = num (p / 12) (p % 12 + 1) 1 + len (p / 12) (p % 12 + 1) - 1 := by unfold num; omega
        unfold span
        rw [if_pos]
        by_cases o : y < p / 12
        · have := num_lt (y := y) (m := 12) (d := 31) (y' := p / 12) (m' := p % 12 + 1) (d' := 1) (by omega) (by omega) (by omega) (by omega) (Or.inl o)
          omega
        · have := num_lt (y := p / 12) (m := p % 12 + 1) (d := len (p / 12) (p % 12 + 1)) (y' := y) (m' := 1) (d' := 1) (by omega) (by omega) (by omega) (by omega) (Or.inl (by omega))
          omega
    have z3 : dates_Days.f k y 12 31 y 1 1 (12 * y) = some 0 := by
      rw [days_yes (by omega) (by omega) (by omega) (by omega) (by omega) (by omega) (by omega)]
      congr 1
      rw [show 12 * y / 12 = y by omega, show 12 * y % 12 + 1 = 1 by omega]
      unfold span
      rw [if_pos]
      rw [l1]
      unfold num
      omega
    simp only [paymasterlaw06_DatesYears.l0]
    rw [if_neg (by omega)]
    simp only [if_true]
    rw [w64 (x := num y 12 31 - num y 1 1) (by omega) (by omega), w64 (x := num y 12 31 - num y 1 1 + 1) (by omega) (by omega), if_pos e]
    rw [w64 (x := 12 * y) (by omega) (by omega), w64 (x := 12 * y - 1) (by omega) (by omega), w64 (x := 12 * y + 12) (by omega) (by omega)]
    rw [z _ (by omega)]
    simp only [Option.bind_some]
    rw [if_pos trivial, z _ (by omega)]
    simp only [Option.bind_some]
    rw [if_pos trivial, z3]
    simp only [Option.bind_some]
    rw [if_pos trivial, awake_eq (by omega)]
    rfl
  | succ d ih =>
    intro k m hm hd hk
    obtain ⟨k, rfl⟩ : ∃ j, k = j + 1 := ⟨k - 1, by omega⟩
    have e := cum_succ (y := y) (m := m) a b hm (by omega)
    have c := cum_bd y m
    have l := len_bd y m
    simp only [paymasterlaw06_DatesYears.l0]
    rw [if_pos (by omega), w64 (x := 12 * y) (by omega) (by omega), w64 (x := 12 * y + m) (by omega) (by omega), w64 (x := 12 * y + m - 1) (by omega) (by omega)]
    rw [days_yes (by omega) (by omega) (by omega) (by omega) (by omega) (by omega) (by omega), show (12 * y + m - 1) / 12 = y by omega, show (12 * y + m - 1) % 12 + 1 = m by omega, span_year a b hm (by omega), length_eq (by omega)]
    simp only [Option.bind_some, if_true]
    rw [w64 (by omega) (by omega), w64 (by omega) (by omega), ← e]
    exact ih k (m + 1) (by omega) (by omega) (by omega)

theorem DatesYears : paymasterlaw06_DatesYears.Pure := by
  intro a0 w0
  have b := wf_u16 w0
  obtain ⟨k, hk⟩ : ∃ k : Nat, 1400 ≤ k := ⟨1400, Nat.le_refl _⟩
  refine ⟨k, ?_⟩
  unfold paymasterlaw06_DatesYears.f
  rw [w64 (x := a0) (by omega) (by omega), tm b.1, w64 (by omega) (by omega)]
  have h1 : 1900 ≤ 1900 + a0 % 1100 := by omega
  have h2 : 1900 + a0 % 1100 ≤ 2999 := by omega
  generalize 1900 + a0 % 1100 = y at h1 h2 ⊢
  have l1 : len y 1 = 31 := by unfold len; rw [if_pos ⟨h1, h2⟩]; rfl
  have l12 : len y 12 = 31 := by unfold len; rw [if_pos ⟨h1, h2⟩]; rfl
  rw [number_yes (by omega) (by omega) (by omega), number_yes (by omega) (by omega) (by omega)]
  simp only [Option.bind_some]
  have g := years_loop h1 h2 12 k 1 (by omega) (by omega) (by omega)
  rwa [show cum y 1 = 0 by simp [cum]] at g
end Go.Proofs.Ytkfhclichfjhmaa.Pure
