/- Plain laws of the calendar: what the printed functions of package dates and of the reference compute, in closed form. No program in sight. -/
import Derived.Test.YtkfhclichfjhmaaPAx3
namespace Go.Proofs.Ytkfhclichfjhmaa.Dt
open Go.RowKit Go.Proofs.Ytkfhclichfjhmaa.PA Go.Proofs.YtkfhclichfjhmaaW.PrintWords

theorem w64 {x : Int} (h0 : -9223372036854775808 ≤ x) (h1 : x ≤ 9223372036854775807) : wrap64 x = x := by unfold wrap64; omega
theorem td {a b : Int} (h : 0 ≤ a) : Int.tdiv a b = a / b := Int.tdiv_eq_ediv_of_nonneg h
theorem tm {a b : Int} (h : 0 ≤ a) : Int.tmod a b = a % b := Int.tmod_eq_emod_of_nonneg h

theorem wf_of {k : IntKind} {a : Int} (h : (Lit.int k a).wf = true) : k.min ≤ a ∧ a ≤ k.max := by simpa [Lit.wf] using h
theorem wf_u32 {a : Int} (h : (Lit.int .u32 a).wf = true) : 0 ≤ a ∧ a ≤ 4294967295 := wf_of h
theorem wf_u16 {a : Int} (h : (Lit.int .u16 a).wf = true) : 0 ≤ a ∧ a ≤ 65535 := wf_of h
theorem wf_u8 {a : Int} (h : (Lit.int .u8 a).wf = true) : 0 ≤ a ∧ a ≤ 255 := wf_of h
theorem wf_i64 {a : Int} (h : (Lit.int .i64 a).wf = true) : -9223372036854775808 ≤ a ∧ a ≤ 9223372036854775807 := wf_of h

def lp (y : Int) : Int := if y % 4 = 0 ∧ (y % 100 ≠ 0 ∨ y % 400 = 0) then 1 else 0
theorem lp_bd (y : Int) : 0 ≤ lp y ∧ lp y ≤ 1 := by unfold lp; split <;> omega
def len (y m : Int) : Int :=
  if 1900 ≤ y ∧ y ≤ 2999 then (if m = 2 then 28 + lp y else if m = 4 ∨ m = 6 ∨ m = 9 ∨ m = 11 then 30 else if m = 1 ∨ m = 3 ∨ m = 5 ∨ m = 7 ∨ m = 8 ∨ m = 10 ∨ m = 12 then 31 else 0) else 0
theorem len_bd (y m : Int) : 0 ≤ len y m ∧ len y m ≤ 31 := by
  have := lp_bd y
  unfold len
  split
  · split
    · omega
    · split
      · omega
      · split <;> omega
  · omega
theorem len_in {y m d : Int} (h1 : 1 ≤ d) (h2 : d ≤ len y m) : 1900 ≤ y ∧ y ≤ 2999 ∧ 1 ≤ m ∧ m ≤ 12 ∧ d ≤ 31 := by
  have := lp_bd y
  unfold len at h2
  split at h2
  · split at h2
    · omega
    · split at h2
      · omega
      · split at h2 <;> omega
  · omega
theorem len_lo {y m : Int} (h1 : 1900 ≤ y) (h2 : y ≤ 2999) (h3 : 1 ≤ m) (h4 : m ≤ 12) : 28 ≤ len y m := by
  have := lp_bd y
  unfold len
  rw [if_pos ⟨h1, h2⟩]
  split
  · omega
  · split
    · omega
    · split <;> omega

theorem leap_eq {y : Int} (h : 0 ≤ y) : dates_leap.f y = some (decide (lp y = 1)) := by
  unfold dates_leap.f lp
  rw [tm h, tm h, tm h]
  by_cases h4 : y % 4 = 0
  · rw [if_pos h4]
    by_cases h100 : y % 100 = 0
    · rw [if_pos h100]
      by_cases h400 : y % 400 = 0
      · simp [h4, h400]
      · simp [h4, h400, h100]
    · rw [if_neg h100]
      simp [h4, h100]
  · rw [if_neg h4]
    simp [h4]

theorem length_eq {k : Nat} (hk : 2 ≤ k) (y m : Int) : dates_Length.f k y m = some (len y m) := by
  obtain ⟨k, rfl⟩ : ∃ j, k = j + 2 := ⟨k - 2, by omega⟩
  unfold dates_Length.f len
  by_cases h1 : y < 1900
  · rw [if_pos h1, if_neg (by omega)]
    simp only [dates_Length.j0, if_true]
  · rw [if_neg h1]
    by_cases h2 : y > 2999
    · rw [if_neg (by omega)]
      simp only [dates_Length.j0, decide_eq_true h2, if_true]
    · rw [if_pos (by omega)]
      simp only [dates_Length.j0, decide_eq_false h2, Bool.false_eq_true, if_false]
      rw [leap_eq (by omega)]
      simp only [Option.bind_some, decide_eq_true_eq, dates_Length.j1, beq_iff_eq]
      have := lp_bd y
      by_cases m2 : m = 2
      · rw [if_pos m2, if_pos m2]
        split <;> (congr 1; omega)
      · rw [if_neg m2, if_neg m2]
        by_cases m4 : m = 4
        · subst m4; rfl
        by_cases m6 : m = 6
        · subst m6; rfl
        by_cases m9 : m = 9
        · subst m9; rfl
        by_cases m11 : m = 11
        · subst m11; rfl
        have hne : ¬ (m = 4 ∨ m = 6 ∨ m = 9 ∨ m = 11) := by omega
        rw [if_neg m4, if_neg m6, if_neg m9, if_neg m11, if_neg hne]
        by_cases m1 : m = 1
        · subst m1; rfl
        by_cases m3 : m = 3
        · subst m3; rfl
        by_cases m5 : m = 5
        · subst m5; rfl
        by_cases m7 : m = 7
        · subst m7; rfl
        by_cases m8 : m = 8
        · subst m8; rfl
        by_cases m10 : m = 10
        · subst m10; rfl
        by_cases m12 : m = 12
        · subst m12; rfl
        have hne' : ¬ (m = 1 ∨ m = 3 ∨ m = 5 ∨ m = 7 ∨ m = 8 ∨ m = 10 ∨ m = 12) := by omega
        rw [if_neg m1, if_neg m3, if_neg m5, if_neg m7, if_neg m8, if_neg m10, if_neg m12, if_neg hne']

def A (y : Int) : Int := 365 * (y - 1) + (y - 1) / 4 - (y - 1) / 100 + (y - 1) / 400 - 693595
theorem A_succ (y : Int) : A (y + 1) = A y + 365 + lp y := by unfold A lp; split <;> omega
theorem A_bd {y : Int} (h1 : 1900 ≤ y) (h2 : y ≤ 3000) : 0 ≤ A y ∧ A y ≤ 401767 := by unfold A; omega
theorem A_mono {y z : Int} (h : y ≤ z) : A y ≤ A z := by unfold A; omega
theorem A_lt {y z : Int} (h : y < z) : A y + 365 + lp y ≤ A z := by rw [← A_succ]; exact A_mono (by omega)
theorem A_top : A 3000 = 401767 := by decide
theorem A_low : A 1900 = 0 := by decide
theorem A_guess {n : Int} (h : 0 ≤ n) : A (1900 + n / 366) ≤ n := by unfold A; omega
theorem ahead1_eq {n : Int} (h0 : 0 ≤ n) (h1 : n ≤ 100000) : dates_ahead_1.f n = some (365 * n + n / 4 - n / 100 + n / 400) := by
  unfold dates_ahead_1.f
  rw [td h0, td h0, td h0]
  simp (disch := omega) only [w64]
theorem ahead_eq {y : Int} (h1 : 1 ≤ y) (h2 : y ≤ 4000) : dates_ahead.f y = some (A y) := by
  unfold dates_ahead.f
  rw [w64 (by omega) (by omega), ahead1_eq (by omega) (by omega), ahead1_eq (by omega) (by omega)]
  simp only [Option.bind_some]
  rw [w64 (by omega) (by omega)]
  unfold A
  first | done | (congr 1; first | done | omega)

def cum (y m : Int) : Int :=
  if m ≤ 1 then 0 else if m = 2 then 31 else lp y + (if m = 3 then 59 else if m = 4 then 90 else if m = 5 then 120 else if m = 6 then 151 else if m = 7 then 181 else if m = 8 then 212 else if m = 9 then 243 else if m = 10 then 273 else if m = 11 then 304 else if m = 12 then 334 else 365)
theorem cum_succ {y m : Int} (h1 : 1900 ≤ y) (h2 : y ≤ 2999) (h3 : 1 ≤ m) (h4 : m ≤ 12) : cum y (m + 1) = cum y m + len y m := by
  have h : m = 1 ∨ m = 2 ∨ m = 3 ∨ m = 4 ∨ m = 5 ∨ m = 6 ∨ m = 7 ∨ m = 8 ∨ m = 9 ∨ m = 10 ∨ m = 11 ∨ m = 12 := by omega
  rcases h with rfl | rfl | rfl | rfl | rfl | rfl | rfl | rfl | rfl | rfl | rfl | rfl <;> simp [cum, len, h1, h2] <;> omega
theorem cum_bd (y m : Int) : 0 ≤ cum y m ∧ cum y m ≤ 366 := by
  have := lp_bd y
  unfold cum
  repeat' split
  all_goals omega
theorem cum_mono {y m : Int} (h1 : 1900 ≤ y) (h2 : y ≤ 2999) (h3 : 1 ≤ m) : ∀ j : Nat, m + j ≤ 13 → cum y m ≤ cum y (m + j)
  | 0, _ => by simp
  | j + 1, h => by
    have := cum_mono h1 h2 h3 j (by omega)
    have e := cum_succ (y := y) (m := m + j) h1 h2 (by omega) (by omega)
    have := len_bd y (m + j)
    rw [show m + ((j + 1 : Nat) : Int) = m + j + 1 by omega]
    omega
theorem cum_top (y : Int) : cum y 13 = 365 + lp y := by simp [cum]; omega
theorem cum_lt {y m n : Int} (h1 : 1900 ≤ y) (h2 : y ≤ 2999) (h3 : 1 ≤ m) (h : m < n) (h4 : n ≤ 13) : cum y m + len y m ≤ cum y n := by
  rw [← cum_succ h1 h2 h3 (by omega)]
  have := cum_mono (m := m + 1) h1 h2 (by omega) (n - (m + 1)).toNat (by omega)
  rwa [show m + 1 + ((n - (m + 1)).toNat : Int) = n by omega] at this

def num (y m d : Int) : Int := A y + cum y m + d - 1
theorem num_bd {y m d : Int} (h1 : 1 ≤ d) (h2 : d ≤ len y m) : 0 ≤ num y m d ∧ num y m d < 401767 := by
  obtain ⟨a, b, c, e, _⟩ := len_in h1 h2
  have := A_bd (y := y) a (by omega)
  have := cum_bd y m
  have := A_succ y
  have t := A_mono (y := y + 1) (z := 3000) (by omega)
  rw [A_top] at t
  have := cum_lt (y := y) (m := m) (n := 13) a b c (by omega) (by omega)
  have := cum_top y
  unfold num
  omega
def lex (y m d y' m' d' : Int) : Prop := y < y' ∨ (y = y' ∧ (m < m' ∨ (m = m' ∧ d < d')))
theorem num_lt {y m d y' m' d' : Int} (h1 : 1 ≤ d) (h2 : d ≤ len y m) (h1' : 1 ≤ d') (h2' : d' ≤ len y' m') (h : lex y m d y' m' d') : num y m d < num y' m' d' := by
  obtain ⟨a, b, c, e, _⟩ := len_in h1 h2
  obtain ⟨a', b', c', e', _⟩ := len_in h1' h2'
  unfold num
  rcases h with h | ⟨rfl, h | ⟨rfl, h⟩⟩
  · have := A_lt h
    have := cum_lt (y := y) (m := m) (n := 13) a b c (by omega) (by omega)
    have := cum_top y
    have := cum_bd y' m'
    omega
  · have := cum_lt (y := y) a b c h (by omega)
    omega
  · omega
theorem lex_three (y m d y' m' d' : Int) : lex y m d y' m' d' ∨ lex y' m' d' y m d ∨ (y = y' ∧ m = m' ∧ d = d') := by unfold lex; omega
theorem num_inj {y m d y' m' d' : Int} (h1 : 1 ≤ d) (h2 : d ≤ len y m) (h1' : 1 ≤ d') (h2' : d' ≤ len y' m') (h : num y m d = num y' m' d') : y = y' ∧ m = m' ∧ d = d' := by
  rcases lex_three y m d y' m' d' with l | l | l
  · have := num_lt h1 h2 h1' h2' l; omega
  · have := num_lt h1' h2' h1 h2 l; omega
  · exact l

theorem right_eq {k : Nat} (hk : 2 ≤ k) (y m d : Int) : dates_Right.f k y m d = some (decide (1 ≤ d ∧ d ≤ len y m)) := by
  unfold dates_Right.f
  by_cases h : d ≥ 1
  · rw [if_pos h, length_eq hk]
    simp only [Option.bind_some]
    congr 1
    by_cases h2 : d ≤ len y m
    · rw [decide_eq_true h2, decide_eq_true ⟨h, h2⟩]
    · rw [decide_eq_false h2, decide_eq_false (fun e => h2 e.2)]
  · rw [if_neg h, decide_eq_false (fun e => h e.1)]

theorem number_loop {y : Int} (h1 : 1900 ≤ y) (h2 : y ≤ 2999) {M : Int} (hM : M ≤ 12) (dd : Int) (d : Nat) : ∀ (k : Nat) (acc m : Int), 1 ≤ m → M - m = d → d + 3 ≤ k → 0 ≤ acc → acc ≤ 1000000 + 100 * m →
    dates_Number.l0 k acc m y M dd = some (acc + cum y M - cum y m, true) := by
  induction d with
  | zero =>
    intro k acc m hm hd hk _ _
    obtain ⟨k, rfl⟩ : ∃ j, k = j + 1 := ⟨k - 1, by omega⟩
    simp only [dates_Number.l0]
    rw [if_neg (by omega), show m = M by omega]
    congr 2
    omega
  | succ d ih =>
    intro k acc m hm hd hk h0 hb
    obtain ⟨k, rfl⟩ : ∃ j, k = j + 1 := ⟨k - 1, by omega⟩
    have l := len_bd y m
    have e := cum_succ (y := y) (m := m) h1 h2 hm (by omega)
    simp only [dates_Number.l0]
    rw [if_pos (by omega), length_eq (by omega)]
    simp only [Option.bind_some]
    rw [w64 (by omega) (by omega), w64 (by omega) (by omega), ih k (acc + len y m) (m + 1) (by omega) (by omega) (by omega) (by omega) (by omega)]
    congr 2
    omega
theorem number_yes {k : Nat} (hk : 20 ≤ k) {y m d : Int} (h1 : 1 ≤ d) (h2 : d ≤ len y m) : dates_Number.f k y m d = some (num y m d, true) := by
  obtain ⟨a, b, c, e, f⟩ := len_in h1 h2
  have := A_bd (y := y) a (by omega)
  unfold dates_Number.f
  rw [right_eq (by omega)]
  simp only [Option.bind_some, decide_eq_true_eq]
  rw [if_pos ⟨h1, h2⟩, ahead_eq (by omega) (by omega)]
  simp only [Option.bind_some]
  rw [w64 (x := A y + d) (by omega) (by omega), w64 (by omega) (by omega)]
  rw [number_loop a b e d (m - 1).toNat k (A y + d - 1) 1 (by omega) (by omega) (by omega) (by omega) (by omega)]
  unfold num
  rw [show cum y 1 = 0 by simp [cum]]
  congr 2
  omega
theorem number_no {k : Nat} (hk : 2 ≤ k) {y m d : Int} (h : ¬ (1 ≤ d ∧ d ≤ len y m)) : dates_Number.f k y m d = some (0, false) := by
  unfold dates_Number.f
  rw [right_eq hk]
  simp only [Option.bind_some, decide_eq_true_eq]
  rw [if_neg h]

theorem of_months {y : Int} (h1 : 1900 ≤ y) (h2 : y ≤ 2999) (d : Nat) : ∀ (k : Nat) (n m : Int), 1 ≤ m → 12 - m = d → d + 3 ≤ k → 0 ≤ n → n + cum y m < 365 + lp y →
    ∃ m' d', dates_Of.l1 k n y m = some (y, m', d', true) ∧ 1 ≤ d' ∧ d' ≤ len y m' ∧ cum y m' + d' - 1 = cum y m + n := by
  induction d with
  | zero =>
    intro k n m hm hd hk h0 hb
    obtain ⟨k, rfl⟩ : ∃ j, k = j + 1 := ⟨k - 1, by omega⟩
    obtain rfl : m = 12 := by omega
    have e := cum_succ (y := y) (m := 12) h1 h2 (by omega) (by omega)
    have t := cum_top y
    have := lp_bd y
    rw [show (12 : Int) + 1 = 13 from rfl] at e
    refine ⟨12, n + 1, ?_, by omega, by omega, by omega⟩
    simp only [dates_Of.l1]
    rw [length_eq (by omega)]
    simp only [Option.bind_some]
    rw [if_neg (by omega), w64 (by omega) (by have := cum_bd y 12; omega)]
  | succ d ih =>
    intro k n m hm hd hk h0 hb
    obtain ⟨k, rfl⟩ : ∃ j, k = j + 1 := ⟨k - 1, by omega⟩
    have e := cum_succ (y := y) (m := m) h1 h2 hm (by omega)
    have l := len_bd y m
    have := lp_bd y
    have := cum_bd y m
    by_cases hlt : n ≥ len y m
    · obtain ⟨m', d', r, a, b, c⟩ := ih k (n - len y m) (m + 1) (by omega) (by omega) (by omega) (by omega) (by omega)
      refine ⟨m', d', ?_, a, b, by omega⟩
      simp only [dates_Of.l1]
      rw [length_eq (by omega)]
      simp only [Option.bind_some]
      rw [if_pos hlt, w64 (by omega) (by omega), w64 (by omega) (by omega)]
      exact r
    · refine ⟨m, n + 1, ?_, by omega, by omega, by omega⟩
      simp only [dates_Of.l1]
      rw [length_eq (by omega)]
      simp only [Option.bind_some]
      rw [if_neg hlt, w64 (by omega) (by omega)]
theorem of_rest {k : Nat} (hk : 16 ≤ k) {n y : Int} (h1 : 1900 ≤ y) (h2 : y ≤ 2999) (ha : A y ≤ n) (hb : n < A (y + 1)) :
    ∃ m' d', dates_Of.j2 k n y = some (y, m', d', true) ∧ 1 ≤ d' ∧ d' ≤ len y m' ∧ num y m' d' = n := by
  obtain ⟨k, rfl⟩ : ∃ j, k = j + 1 := ⟨k - 1, by omega⟩
  have e := A_succ y
  have := A_bd (y := y) h1 (by omega)
  have := A_bd (y := y + 1) (by omega) (by omega)
  have := lp_bd y
  obtain ⟨m', d', r, a, b, c⟩ := of_months h1 h2 11 k (n - A y) 1 (by omega) (by omega) (by omega) (by omega) (by simp [cum]; omega)
  refine ⟨m', d', ?_, a, b, ?_⟩
  · simp only [dates_Of.j2]
    rw [ahead_eq (by omega) (by omega)]
    simp only [Option.bind_some]
    rw [w64 (by omega) (by omega)]
    exact r
  · rw [show cum y 1 = 0 by simp [cum]] at c
    unfold num
    omega
theorem of_years (d : Nat) : ∀ (k : Nat) (n y : Int), 1900 ≤ y → 2999 - y = d → d + 20 ≤ k → A y ≤ n → n < 401767 →
    ∃ y' m' d', dates_Of.l0 k n y = some (y', m', d', true) ∧ 1 ≤ d' ∧ d' ≤ len y' m' ∧ num y' m' d' = n := by
  induction d with
  | zero =>
    intro k n y hy hd hk ha hb
    obtain ⟨k, rfl⟩ : ∃ j, k = j + 1 := ⟨k - 1, by omega⟩
    obtain rfl : y = 2999 := by omega
    obtain ⟨m', d', r, q⟩ := of_rest (k := k) (by omega) hy (by omega) ha (by rw [show (2999 : Int) + 1 = 3000 from rfl, A_top]; exact hb)
    refine ⟨2999, m', d', ?_, q⟩
    simp only [dates_Of.l0]
    rw [if_neg (by omega)]
    exact r
  | succ d ih =>
    intro k n y hy hd hk ha hb
    obtain ⟨k, rfl⟩ : ∃ j, k = j + 1 := ⟨k - 1, by omega⟩
    by_cases hc : A (y + 1) ≤ n
    · obtain ⟨y', m', d', r, q⟩ := ih k n (y + 1) (by omega) (by omega) (by omega) hc hb
      refine ⟨y', m', d', ?_, q⟩
      simp only [dates_Of.l0]
      rw [if_pos (by omega), w64 (by omega) (by omega), ahead_eq (by omega) (by omega)]
      simp only [Option.bind_some]
      rw [if_pos hc]
      exact r
    · obtain ⟨m', d', r, q⟩ := of_rest (k := k) (by omega) hy (by omega) ha (by omega)
      refine ⟨y, m', d', ?_, q⟩
      simp only [dates_Of.l0]
      rw [if_pos (by omega), w64 (by omega) (by omega), ahead_eq (by omega) (by omega)]
      simp only [Option.bind_some]
      rw [if_neg hc]
      exact r
theorem of_yes {k : Nat} (hk : 1200 ≤ k) {n : Int} (h0 : 0 ≤ n) (h1 : n < 401767) :
    ∃ y m d, dates_Of.f k n = some (y, m, d, true) ∧ 1 ≤ d ∧ d ≤ len y m ∧ num y m d = n := by
  obtain ⟨k, rfl⟩ : ∃ j, k = j + 1 := ⟨k - 1, by omega⟩
  obtain ⟨y, m, d, r, q⟩ := of_years (2999 - (1900 + n / 366)).toNat k n (1900 + n / 366) (by omega) (by omega) (by omega) (A_guess h0) h1
  refine ⟨y, m, d, ?_, q⟩
  unfold dates_Of.f
  rw [if_neg (by omega), ahead_eq (by omega) (by omega), A_top]
  simp only [Option.bind_some, dates_Of.j0]
  rw [decide_eq_false (by omega), if_neg (by simp), td h0, w64 (x := n / 366) (by omega) (by omega), w64 (by omega) (by omega)]
  exact r
theorem of_no {k : Nat} (hk : 1 ≤ k) {n : Int} (h : ¬ (0 ≤ n ∧ n < 401767)) : dates_Of.f k n = some (0, 0, 0, false) := by
  obtain ⟨k, rfl⟩ : ∃ j, k = j + 1 := ⟨k - 1, by omega⟩
  unfold dates_Of.f
  by_cases h0 : n < 0
  · rw [if_pos h0]
    simp only [dates_Of.j0, if_true]
  · rw [if_neg h0, ahead_eq (by omega) (by omega), A_top]
    simp only [Option.bind_some, dates_Of.j0]
    rw [decide_eq_true (by omega)]
    simp
theorem of_at {k : Nat} (hk : 1200 ≤ k) {y m d : Int} (h1 : 1 ≤ d) (h2 : d ≤ len y m) : dates_Of.f k (num y m d) = some (y, m, d, true) := by
  have b := num_bd h1 h2
  obtain ⟨y', m', d', r, a, c, e⟩ := of_yes hk b.1 b.2
  obtain ⟨rfl, rfl, rfl⟩ := num_inj a c h1 h2 e
  exact r
theorem awake_eq {k : Nat} (hk : 1200 ≤ k) : paymasterlaw06_awake.f k = some true := by
  have l3 : len 1900 3 = 31 := by decide
  have n3 : num 1900 3 1 = 59 := by decide
  have l2 : len 2000 2 = 29 := by decide
  unfold paymasterlaw06_awake.f
  rw [number_yes (by omega) (by omega) (by rw [l3]; omega), n3, show (59 : Int) = num 1900 3 1 from n3.symm, of_at hk (by omega) (by rw [l3]; omega), length_eq (by omega), l2]
  simp
end Go.Proofs.Ytkfhclichfjhmaa.Dt
