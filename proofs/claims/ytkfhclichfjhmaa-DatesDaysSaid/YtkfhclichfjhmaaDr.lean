/- Plain laws of the reference's calendar: a month's length, a date's number, the day behind, in the closed form of the program's own. -/
import Derived.Test.YtkfhclichfjhmaaPAx4
import Derived.Test.YtkfhclichfjhmaaDt
namespace Go.Proofs.Ytkfhclichfjhmaa.Dt
open Go.RowKit Go.Proofs.Ytkfhclichfjhmaa.PA Go.Proofs.YtkfhclichfjhmaaW.PrintWords

theorem reflen_eq {k : Nat} (hk : 1 ≤ k) (y m : Int) : paymasterref06_Length.f k y m = some (len y m) := by
  obtain ⟨k, rfl⟩ : ∃ j, k = j + 1 := ⟨k - 1, by omega⟩
  unfold paymasterref06_Length.f len
  by_cases h1 : y < 1900
  · rw [if_pos h1, if_neg (by omega)]
    simp only [paymasterref06_Length.j0, if_true]
  · rw [if_neg h1]
    by_cases h2 : y > 2999
    · rw [if_pos h2, if_neg (by omega)]
      simp only [paymasterref06_Length.j0, if_true]
    · have hy : 1900 ≤ y ∧ y ≤ 2999 := by omega
      rw [if_neg h2, if_pos hy]
      by_cases h3 : m < 1
      · rw [if_pos h3]
        simp only [paymasterref06_Length.j0, if_true]
        rw [if_neg (by omega), if_neg (by omega), if_neg (by omega)]
      · rw [if_neg h3]
        by_cases h4 : m > 12
        · simp only [paymasterref06_Length.j0, decide_eq_true h4, if_true]
          rw [if_neg (by omega), if_neg (by omega), if_neg (by omega)]
        · simp only [paymasterref06_Length.j0, decide_eq_false h4, Bool.false_eq_true, if_false, Option.bind_some]
          rw [tm (by omega), tm (by omega), tm (by omega)]
          have h : m = 1 ∨ m = 2 ∨ m = 3 ∨ m = 4 ∨ m = 5 ∨ m = 6 ∨ m = 7 ∨ m = 8 ∨ m = 9 ∨ m = 10 ∨ m = 11 ∨ m = 12 := by omega
          rcases h with rfl | rfl | rfl | rfl | rfl | rfl | rfl | rfl | rfl | rfl | rfl | rfl
          case inr.inl =>
            have e : ∀ z : Option Int, (if (0 : Int) ≤ wrap64 (2 - 1) then (if wrap64 (2 - 1) < ((([31, 28, 31, 30, 31, 30, 31, 31, 30, 31, 30, 31] : List Int).length : Int)) then (some (rd [31, 28, 31, 30, 31, 30, 31, 31, 30, 31, 30, 31] (wrap64 (2 - 1)))) else z) else z) = some 28 := fun z => by
              rw [w64 (by omega) (by omega), if_pos (by omega), if_pos (by decide)]
              rfl
            simp only [if_true]
            rw [e]
            unfold lp
            by_cases q4 : y % 400 = 0
            · rw [if_pos q4, if_pos (by omega)]
              rfl
            · rw [if_neg q4]
              by_cases q1 : y % 4 = 0
              · rw [if_pos q1]
                by_cases q2 : y % 100 = 0
                · rw [if_pos q2, if_neg (by omega)]
                  rfl
                · rw [if_neg q2, if_pos (by omega)]
                  rfl
              · rw [if_neg q1, if_neg (by omega)]
                rfl
          all_goals
            rw [w64 (by omega) (by omega)]
            rfl

theorem refnum_months {y : Int} (h1 : 1900 ≤ y) (h2 : y ≤ 2999) {M : Int} (hM : M ≤ 12) (dd : Int) (d : Nat) : ∀ (k : Nat) (acc m : Int), 1 ≤ m → M - m = d → d + 3 ≤ k → 0 ≤ acc → acc ≤ 1000000 + 100 * m →
    paymasterref06_Number.l1 k acc m y M dd = some (acc + cum y M - cum y m) := by
  induction d with
  | zero =>
    intro k acc m hm hd hk _ _
    obtain ⟨k, rfl⟩ : ∃ j, k = j + 1 := ⟨k - 1, by omega⟩
    simp only [paymasterref06_Number.l1]
    rw [if_neg (by omega), show m = M by omega]
    congr 1
    omega
  | succ d ih =>
    intro k acc m hm hd hk h0 hb
    obtain ⟨k, rfl⟩ : ∃ j, k = j + 1 := ⟨k - 1, by omega⟩
    have l := len_bd y m
    have e := cum_succ (y := y) (m := m) h1 h2 hm (by omega)
    simp only [paymasterref06_Number.l1]
    rw [if_pos (by omega), reflen_eq (by omega)]
    simp only [Option.bind_some]
    rw [w64 (by omega) (by omega), w64 (by omega) (by omega), ih k (acc + len y m) (m + 1) (by omega) (by omega) (by omega) (by omega) (by omega)]
    congr 1
    omega
theorem refnum_years {Y M dd : Int} (h2 : Y ≤ 2999) (hM : 1 ≤ M) (hM' : M ≤ 12) (hd : 1 ≤ dd) (hd' : dd ≤ 31) (d : Nat) : ∀ (k : Nat) (y : Int), 1900 ≤ y → Y - y = d → d + 20 ≤ k →
    paymasterref06_Number.l0 k (A y + dd - 1) y Y M dd = some (num Y M dd) := by
  induction d with
  | zero =>
    intro k y hy hyd hk
    obtain ⟨k, rfl⟩ : ∃ j, k = j + 1 := ⟨k - 1, by omega⟩
    obtain rfl : y = Y := by omega
    have b := A_bd (y := y) hy (by omega)
    simp only [paymasterref06_Number.l0]
    rw [if_neg (by omega), refnum_months hy h2 hM' dd (M - 1).toNat k (A y + dd - 1) 1 (by omega) (by omega) (by omega) (by omega) (by omega), show cum y 1 = 0 by simp [cum]]
    unfold num
    congr 1
    omega
  | succ d ih =>
    intro k y hy hyd hk
    obtain ⟨k, rfl⟩ : ∃ j, k = j + 1 := ⟨k - 1, by omega⟩
    have b := A_bd (y := y) hy (by omega)
    have l := lp_bd y
    have e := A_succ y
    simp only [paymasterref06_Number.l0]
    rw [if_pos (by omega), reflen_eq (by omega)]
    have q : len y 2 = 28 + lp y := by unfold len; rw [if_pos (by omega), if_pos rfl]
    simp only [Option.bind_some, q]
    rw [w64 (x := 337 + (28 + lp y)) (by omega) (by omega), w64 (by omega) (by omega), w64 (by omega) (by omega), show A y + dd - 1 + (337 + (28 + lp y)) = A (y + 1) + dd - 1 by omega]
    exact ih k (y + 1) (by omega) (by omega) (by omega)
theorem refnum_eq {k : Nat} (hk : 1200 ≤ k) {y m d : Int} (h1 : 1 ≤ d) (h2 : d ≤ len y m) : paymasterref06_Number.f k y m d = some (num y m d) := by
  obtain ⟨a, b, c, e, f⟩ := len_in h1 h2
  unfold paymasterref06_Number.f
  rw [w64 (by omega) (by omega)]
  have g := refnum_years (Y := y) (M := m) (dd := d) b c e h1 f (y - 1900).toNat k 1900 (by omega) (by omega) (by omega)
  rwa [A_low, show (0 : Int) + d - 1 = d - 1 by omega] at g

/-- The day behind. -/
def next (y m d : Int) : Int × Int × Int := if d < len y m then (y, m, d + 1) else if m < 12 then (y, m + 1, 1) else (y + 1, 1, 1)
theorem next_eq {k : Nat} (hk : 1 ≤ k) {y m d : Int} (h1 : 1 ≤ d) (h2 : d ≤ len y m) : paymasterref06_Next.f k y m d = some (next y m d) := by
  obtain ⟨a, b, c, e, f⟩ := len_in h1 h2
  unfold paymasterref06_Next.f next
  rw [reflen_eq hk]
  simp only [Option.bind_some]
  rw [w64 (x := d + 1) (by omega) (by omega), w64 (x := m + 1) (by omega) (by omega), w64 (x := y + 1) (by omega) (by omega)]
  by_cases q : d < len y m
  · rw [if_neg (by omega), if_pos q, if_neg (by omega)]
  · rw [if_pos (by omega), if_neg q]
    by_cases z : m < 12
    · rw [if_neg (by omega), if_pos z]
    · rw [if_pos (by omega), if_neg z]
theorem next_num {y m d : Int} (h1 : 1 ≤ d) (h2 : d ≤ len y m) (h : num y m d ≠ 401766) :
    1 ≤ (next y m d).2.2 ∧ (next y m d).2.2 ≤ len (next y m d).1 (next y m d).2.1 ∧ num (next y m d).1 (next y m d).2.1 (next y m d).2.2 = num y m d + 1 := by
  obtain ⟨a, b, c, e, f⟩ := len_in h1 h2
  have s := cum_succ (y := y) (m := m) a b c e
  unfold next
  by_cases q : d < len y m
  · rw [if_pos q]
    simp only [num]
    omega
  · rw [if_neg q]
    by_cases z : m < 12
    · rw [if_pos z]
      have := len_lo (y := y) (m := m + 1) a b (by omega) (by omega)
      simp only [num]
      omega
    · rw [if_neg z]
      obtain rfl : m = 12 := by omega
      have t := cum_top y
      rw [show (12 : Int) + 1 = 13 from rfl] at s
      have u := A_succ y
      have hy : y ≠ 2999 := by
        rintro rfl
        apply h
        rw [show (2999 : Int) + 1 = 3000 from rfl, A_top] at u
        unfold num
        omega
      have := len_lo (y := y + 1) (m := 1) (by omega) (by omega) (by omega) (by omega)
      have c1 : cum (y + 1) 1 = 0 := by simp [cum]
      simp only [num]
      omega
end Go.Proofs.Ytkfhclichfjhmaa.Dt
