/- Plain law of dates.Days: of a period, from a date to another one, in closed form over the dates' numbers. -/
import Derived.Test.YtkfhclichfjhmaaPAx8
import Derived.Test.YtkfhclichfjhmaaDr
namespace Go.Proofs.Ytkfhclichfjhmaa.Dt
open Go.RowKit Go.Proofs.Ytkfhclichfjhmaa.PA Go.Proofs.YtkfhclichfjhmaaW.PrintWords

/-- How many days of month m of year y lie between the numbers a and b, both counted. -/
def span (a b y m : Int) : Int := if min b (num y m 1 + len y m - 1) < max a (num y m 1) then 0 else min b (num y m 1 + len y m - 1) - max a (num y m 1) + 1
theorem mx_max (a b : Int) : mx a b = max a b := by unfold mx; split <;> omega
theorem mn_min (a b : Int) : mn a b = min a b := by unfold mn; split <;> omega
theorem days_yes {k : Nat} (hk : 21 ≤ k) {y m d y' m' d' p : Int} (h1 : 1 ≤ d) (h2 : d ≤ len y m) (h1' : 1 ≤ d') (h2' : d' ≤ len y' m') (hp : 22800 ≤ p) (hp' : p < 36000) :
    dates_Days.f k y m d y' m' d' p = some (span (num y m d) (num y' m' d') (p / 12) (p % 12 + 1)) := by
  obtain ⟨k, rfl⟩ : ∃ j, k = j + 1 := ⟨k - 1, by omega⟩
  have ll := len_lo (y := p / 12) (m := p % 12 + 1) (by omega) (by omega) (by omega) (by omega)
  have lb := len_bd (p / 12) (p % 12 + 1)
  have b1 := num_bd h1 h2
  have b2 := num_bd h1' h2'
  have b3 := num_bd (y := p / 12) (m := p % 12 + 1) (d := 1) (by omega) (by omega)
  unfold dates_Days.f
  rw [right_eq (by omega), right_eq (by omega)]
  simp only [Option.bind_some, decide_eq_true_eq]
  rw [if_pos ⟨h1, h2⟩, if_pos ⟨h1', h2'⟩, if_neg (by omega)]
  simp only [dates_Days.j0]
  rw [decide_eq_false (by omega), if_neg (by simp), td (by omega), tm (by omega), w64 (x := p / 12) (by omega) (by omega), w64 (x := p % 12 + 1) (by omega) (by omega)]
  rw [number_yes (by omega) (by omega) (by omega), number_yes (by omega) h1 h2, number_yes (by omega) h1' h2', length_eq (by omega)]
  simp only [Option.bind_some]
  rw [w64 (x := num (p / 12) (p % 12 + 1) 1 + len (p / 12) (p % 12 + 1)) (by omega) (by omega), w64 (x := num (p / 12) (p % 12 + 1) 1 + len (p / 12) (p % 12 + 1) - 1) (by omega) (by omega)]
  rw [mx_max, mx_max, mn_min]
  rw [w64 (x := min (num y' m' d') (num (p / 12) (p % 12 + 1) 1 + len (p / 12) (p % 12 + 1) - 1) - max (num y m d) (num (p / 12) (p % 12 + 1) 1)) (by omega) (by omega), w64 (by omega) (by omega)]
  unfold span
  congr 1
  split <;> omega
theorem days_far {k : Nat} (hk : 21 ≤ k) (y m d y' m' d' : Int) {p : Int} (hp : p < 22800 ∨ 36000 ≤ p) : dates_Days.f k y m d y' m' d' p = some 0 := by
  obtain ⟨k, rfl⟩ : ∃ j, k = j + 1 := ⟨k - 1, by omega⟩
  unfold dates_Days.f
  rw [right_eq (by omega), right_eq (by omega)]
  have j : dates_Days.j0 (k + 1) p true y m d y' m' d' = some 0 := by simp only [dates_Days.j0, if_true]
  simp only [Option.bind_some]
  by_cases a : decide (1 ≤ d ∧ d ≤ len y m) = true
  · rw [if_pos a]
    by_cases b : decide (1 ≤ d' ∧ d' ≤ len y' m') = true
    · rw [if_pos b]
      by_cases c : p < 22800
      · rw [if_pos c]; exact j
      · rw [if_neg c, decide_eq_true (by omega)]; exact j
    · rw [if_neg b]; exact j
  · rw [if_neg a]; exact j
theorem days_no {k : Nat} (hk : 21 ≤ k) {y m d : Int} (y' m' d' p : Int) (h : ¬ (1 ≤ d ∧ d ≤ len y m)) : dates_Days.f k y m d y' m' d' p = some 0 := by
  obtain ⟨k, rfl⟩ : ∃ j, k = j + 1 := ⟨k - 1, by omega⟩
  unfold dates_Days.f
  rw [right_eq (by omega)]
  simp only [Option.bind_some]
  rw [if_neg (by simpa using h)]
  simp only [dates_Days.j0, if_true]

/-- Whether a date lies in a month is told by its number. -/
theorem in_month {y m d Y M : Int} (h1 : 1 ≤ d) (h2 : d ≤ len y m) (a : 1900 ≤ Y) (b : Y ≤ 2999) (c : 1 ≤ M) (e : M ≤ 12) :
    (num Y M 1 ≤ num y m d ∧ num y m d ≤ num Y M 1 + len Y M - 1) ↔ y = Y ∧ m = M := by
  have ll := len_lo a b c e
  have f : num Y M (len Y M) = num Y M 1 + len Y M - 1 := by unfold num; omega
  rw [← f]
  constructor
  · rintro ⟨g, h⟩
    rcases lex_three y m d Y M 1 with l | l | l
    · have := num_lt h1 h2 (by omega) (by omega) l; omega
    · rcases lex_three y m d Y M (len Y M) with l' | l' | l'
      · unfold lex at l l'
        omega
      · have := num_lt (by omega) (by omega) h1 h2 l'; omega
      · exact ⟨l'.1, l'.2.1⟩
    · exact ⟨l.1, l.2.1⟩
  · rintro ⟨rfl, rfl⟩
    unfold num
    omega
end Go.Proofs.Ytkfhclichfjhmaa.Dt
