/- Proved here: DatesPeriods as the print tells it, over numbers alone, for any three numbers of 16, 8 and 8 bits. -/
import Derived.Test.YtkfhclichfjhmaaPAx10
import Derived.Test.YtkfhclichfjhmaaDy
namespace Go.Proofs.Ytkfhclichfjhmaa.Pure
open Go.RowKit Go.Proofs.Ytkfhclichfjhmaa.PA Go.Proofs.YtkfhclichfjhmaaW.PrintWords Go.Proofs.YtkfhclichfjhmaaW.PrintLast
open Go.Proofs.Ytkfhclichfjhmaa.Dt

theorem period_yes {k : Nat} (hk : 2 ≤ k) {y m d : Int} (h1 : 1 ≤ d) (h2 : d ≤ len y m) : dates_Period.f k y m d = some (12 * y + m - 1, true) := by
  obtain ⟨a, b, c, e, f⟩ := len_in h1 h2
  unfold dates_Period.f
  rw [right_eq hk]
  simp only [Option.bind_some, decide_eq_true_eq]
  rw [if_pos ⟨h1, h2⟩, w64 (x := 12 * y) (by omega) (by omega), w64 (x := 12 * y + m) (by omega) (by omega), w64 (by omega) (by omega)]

theorem DatesPeriods : paymasterlaw06_DatesPeriods.Pure := by
  intro a0 a1 a2 w0 w1 w2
  have b0 := wf_u16 w0
  have b1 := wf_u8 w1
  have b2 := wf_u8 w2
  obtain ⟨k, hk⟩ : ∃ k : Nat, 1400 ≤ k := ⟨1400, Nat.le_refl _⟩
  refine ⟨k, ?_⟩
  unfold paymasterlaw06_DatesPeriods.f
  rw [w64 (x := a0) (by omega) (by omega), tm b0.1, tm b1.1, tm b2.1, w64 (x := a1 % 12) (by omega) (by omega), w64 (x := a2 % 28) (by omega) (by omega), w64 (x := 1900 + a0 % 1099) (by omega) (by omega), w64 (x := 1 + a1 % 12) (by omega) (by omega), w64 (x := 1 + a2 % 28) (by omega) (by omega)]
  have y1 : 1900 ≤ 1900 + a0 % 1099 := by omega
  have y2 : 1900 + a0 % 1099 ≤ 2998 := by omega
  have m1 : 1 ≤ 1 + a1 % 12 := by omega
  have m2 : 1 + a1 % 12 ≤ 12 := by omega
  have d1 : 1 ≤ 1 + a2 % 28 := by omega
  have d2 : 1 + a2 % 28 ≤ 28 := by omega
  generalize 1900 + a0 % 1099 = y at y1 y2 ⊢
  generalize 1 + a1 % 12 = m at m1 m2 ⊢
  generalize 1 + a2 % 28 = d at d1 d2 ⊢
  have ll := len_lo (y := y) (m := m) y1 (by omega) m1 m2
  have ll' := len_lo (y := y + 1) (m := m) (by omega) (by omega) m1 m2
  have lb := len_bd y m
  have q : (12 * y + m - 1) / 12 = y := by omega
  have q' : (12 * y + m - 1) % 12 + 1 = m := by omega
  rw [period_yes (by omega) d1 (by omega), w64 (x := y + 1) (by omega) (by omega), period_yes (by omega) d1 (by omega), length_eq (by omega)]
  simp only [Option.bind_some, if_true]
  rw [w64 (x := 12 * y + m - 1 + 12) (by omega) (by omega), w64 (x := 12 * y + m - 1 + 1) (by omega) (by omega), if_pos (by omega)]
  have hn : num y m (len y m) = num y m 1 + len y m - 1 := by unfold num; omega
  have hd : num y m d = num y m 1 + d - 1 := by unfold num; omega
  have s1 : span (num y m 1) (num y m (len y m)) y m = len y m := by unfold span; split <;> omega
  have s3 : span (num y m d) (num y m d) y m = 1 := by unfold span; split <;> omega
  have s4 : span (num y m 1) (num y m d) y m = d := by unfold span; split <;> omega
  have s2 : dates_Days.f k y m 1 y m (len y m) (12 * y + m - 1 + 1) = some 0 := by
    rw [days_yes (by omega) (by omega) (by omega) (by omega) (by omega) (by omega) (by omega)]
    congr 1
    have z := len_lo (y := (12 * y + m - 1 + 1) / 12) (m := (12 * y + m - 1 + 1) % 12 + 1) (by omega) (by omega) (by omega) (by omega)
    have o : lex y m (len y m) ((12 * y + m - 1 + 1) / 12) ((12 * y + m - 1 + 1) % 12 + 1) 1 := by unfold lex; omega
    have := num_lt (by omega) (by omega) (by omega) (by omega) o
    unfold span
    rw [if_pos (by omega)]
  rw [days_yes (by omega) (by omega) (by omega) (by omega) (by omega) (by omega) (by omega), q, q', s1]
  simp only [Option.bind_some, if_true]
  rw [s2]
  simp only [Option.bind_some, if_true]
  rw [days_yes (by omega) (by omega) (by omega) (by omega) (by omega) (by omega) (by omega), q, q', s3]
  simp only [Option.bind_some, if_true]
  rw [days_yes (by omega) (by omega) (by omega) (by omega) (by omega) (by omega) (by omega), q, q', s4]
  simp only [Option.bind_some, if_true]
  rw [if_pos (by omega), if_pos (by omega), awake_eq (by omega)]
  rfl
end Go.Proofs.Ytkfhclichfjhmaa.Pure
