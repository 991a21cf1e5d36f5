/- Proved here: DatesLeap as the print tells it, over numbers alone, for any number of 16 bits. -/
import Derived.Test.YtkfhclichfjhmaaPAx5
import Derived.Test.YtkfhclichfjhmaaDt
namespace Go.Proofs.Ytkfhclichfjhmaa.Pure
open Go.RowKit Go.Proofs.Ytkfhclichfjhmaa.PA Go.Proofs.YtkfhclichfjhmaaW.PrintWords Go.Proofs.YtkfhclichfjhmaaW.PrintLast
open Go.Proofs.Ytkfhclichfjhmaa.Dt

/-- How many leap years there are up to a year. -/
def lcount (y : Int) : Int := y / 4 - y / 100 + y / 400
theorem lcount_succ (y : Int) : lcount y = lcount (y - 1) + lp y := by unfold lcount lp; split <;> omega

/-- The inner loop: from month m on, what is left of the year is added; then the outer one goes on. -/
theorem leap_months {y : Int} (h1 : 1900 ≤ y) (h2 : y ≤ 2999) (x3 x4 x5 x12 : Int) (hx : x3 + x5 = y) (b4 : 0 ≤ x4 ∧ x4 ≤ 400) (b12 : 0 ≤ x12 ∧ x12 ≤ 400) (r : Bool) (d : Nat) : ∀ (k : Nat) (m : Int), 1 ≤ m → 13 - m = d → 
    (∀ j, k ≤ j + d + 1 → paymasterlaw06_DatesLeap.l0 j x3 (x4 + lp y) (x12 + 1) = some r) → d + 3 ≤ k →
    paymasterlaw06_DatesLeap.l1 k x3 x4 x5 (cum y m) m x12 = some r := by
  induction d with
  | zero =>
    intro k m hm hd hr hk
    obtain ⟨k, rfl⟩ : ∃ j, k = j + 1 := ⟨k - 1, by omega⟩
    obtain rfl : m = 13 := by omega
    have l := lp_bd y
    simp only [paymasterlaw06_DatesLeap.l1]
    rw [if_neg (by omega), cum_top]
    by_cases q : lp y = 0
    · rw [if_pos (by omega), w64 (x := 365 + lp y - 365) (by omega) (by omega), w64 (by omega) (by omega), w64 (by omega) (by omega), show x4 + (365 + lp y - 365) = x4 + lp y by omega]
      exact hr k (by omega)
    · rw [if_neg (by omega), if_pos (by omega), w64 (x := 365 + lp y - 365) (by omega) (by omega), w64 (by omega) (by omega), w64 (by omega) (by omega), show x4 + (365 + lp y - 365) = x4 + lp y by omega]
      exact hr k (by omega)
  | succ d ih =>
    intro k m hm hd hr hk
    obtain ⟨k, rfl⟩ : ∃ j, k = j + 1 := ⟨k - 1, by omega⟩
    have e := cum_succ (y := y) (m := m) h1 h2 hm (by omega)
    have c := cum_bd y m
    have l := len_bd y m
    simp only [paymasterlaw06_DatesLeap.l1]
    rw [if_pos (by omega), w64 (x := x3 + x5) (by omega) (by omega), hx, length_eq (by omega)]
    simp only [Option.bind_some]
    rw [w64 (by omega) (by omega), w64 (by omega) (by omega), ← e]
    exact ih k (m + 1) (by omega) (by omega) (fun j hj => hr j (by omega)) (by omega)

theorem leap_years {y : Int} (h1 : 1900 ≤ y) (h2 : y ≤ 2599) (d : Nat) : ∀ (k : Nat) (x : Int), 0 ≤ x → 400 - x = d → 15 * d + 1300 ≤ k →
    paymasterlaw06_DatesLeap.l0 k y (lcount (y + x - 1) - lcount (y - 1)) x = some true := by
  induction d with
  | zero =>
    intro k x hx hd hk
    obtain ⟨k, rfl⟩ : ∃ j, k = j + 1 := ⟨k - 1, by omega⟩
    obtain rfl : x = 400 := by omega
    simp only [paymasterlaw06_DatesLeap.l0]
    have e : lcount (y + 400 - 1) - lcount (y - 1) = 97 := by unfold lcount; omega
    have q : len (y + 400) 2 = len y 2 := by
      unfold len lp
      rw [if_pos (show 1900 ≤ y + 400 ∧ y + 400 ≤ 2999 by omega), if_pos (show 1900 ≤ y ∧ y ≤ 2999 by omega)]
      simp only [if_true]
      rw [show (y + 400) % 4 = y % 4 by omega, show (y + 400) % 100 = y % 100 by omega, show (y + 400) % 400 = y % 400 by omega]
    rw [if_neg (by omega), if_pos e, length_eq (by omega)]
    simp only [Option.bind_some]
    rw [w64 (by omega) (by omega), length_eq (by omega)]
    simp only [Option.bind_some]
    rw [q, if_pos rfl, awake_eq (by omega)]
    rfl
  | succ d ih =>
    intro k x hx hd hk
    obtain ⟨k, rfl⟩ : ∃ j, k = j + 1 := ⟨k - 1, by omega⟩
    have e := lcount_succ (y + x)
    have b : 0 ≤ lcount (y + x - 1) - lcount (y - 1) ∧ lcount (y + x - 1) - lcount (y - 1) ≤ 400 := by unfold lcount; omega
    simp only [paymasterlaw06_DatesLeap.l0]
    rw [if_pos (by omega)]
    have c : cum (y + x) 1 = 0 := by simp [cum]
    have g := leap_months (y := y + x) (by omega) (by omega) y (lcount (y + x - 1) - lcount (y - 1)) x x rfl b (by omega) true 12 k 1 (by omega) (by omega)
      (fun j hj => by
        have z := ih j (x + 1) (by omega) (by omega) (by omega)
        rw [show y + (x + 1) - 1 = y + x by omega, e] at z
        rw [show lcount (y + x - 1) - lcount (y - 1) + lp (y + x) = lcount (y + x - 1) + lp (y + x) - lcount (y - 1) by omega]
        exact z) (by omega)
    rw [c] at g
    exact g

theorem DatesLeap : paymasterlaw06_DatesLeap.Pure := by
  intro a0 w0
  have b := wf_u16 w0
  refine ⟨7300, ?_⟩
  unfold paymasterlaw06_DatesLeap.f
  rw [w64 (x := a0) (by omega) (by omega), tm b.1, w64 (by omega) (by omega)]
  have g := leap_years (y := 1900 + a0 % 700) (by omega) (by omega) 400 7300 0 (by omega) (by omega) (by omega)
  rw [show 1900 + a0 % 700 + 0 - 1 = 1900 + a0 % 700 - 1 by omega, Int.sub_self] at g
  exact g
end Go.Proofs.Ytkfhclichfjhmaa.Pure
