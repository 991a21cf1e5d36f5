/- Proved here: DatesBack as the print tells it, over numbers alone, for any whole number of 64 bits. -/
import Derived.Test.YtkfhclichfjhmaaPAx5
import Derived.Test.YtkfhclichfjhmaaDr
namespace Go.Proofs.Ytkfhclichfjhmaa.Pure
open Go.RowKit Go.Proofs.Ytkfhclichfjhmaa.PA Go.Proofs.YtkfhclichfjhmaaW.PrintWords Go.Proofs.YtkfhclichfjhmaaW.PrintLast
open Go.Proofs.Ytkfhclichfjhmaa.Dt

theorem DatesBack : paymasterlaw06_DatesBack.Pure := by
  intro n w0
  have b := wf_i64 w0
  have l31 : len 2999 12 = 31 := by decide
  have all : num 2999 12 31 = 401766 := by decide
  refine ⟨1300, ?_⟩
  unfold paymasterlaw06_DatesBack.f
  rw [refnum_eq (k := 1300) (by omega) (y := 2999) (m := 12) (d := 31) (by omega) (by rw [l31]; omega), all]
  by_cases h : 0 ≤ n ∧ n < 401767
  · obtain ⟨y, m, d, r, h1, h2, e⟩ := of_yes (k := 1300) (by omega) h.1 h.2
    rw [r]
    simp only [Option.bind_some]
    rw [if_neg (by omega)]
    simp only [paymasterlaw06_DatesBack.j0]
    rw [decide_eq_false (by omega), if_neg (by simp), number_yes (by omega) h1 h2]
    simp only [Option.bind_some, if_true]
    simp only [paymasterlaw06_DatesBack.j1]
    rw [if_neg (by simp [e]), w64 (by omega) (by omega)]
    by_cases q : n = 401766
    · rw [of_no (by omega) (by omega)]
      simp only [Option.bind_some]
      rw [if_pos q, if_neg (by simp), awake_eq (by omega)]
      rfl
    · obtain ⟨n1, n2, n3⟩ := next_num h1 h2 (by omega)
      have o := of_at (k := 1298) (by omega) n1 n2
      rw [n3, e] at o
      rw [o]
      simp only [Option.bind_some]
      rw [if_neg q, if_pos trivial, next_eq (by omega) h1 h2]
      simp only [Option.bind_some]
      rw [if_pos (by simp), awake_eq (by omega)]
      rfl
  · rw [of_no (by omega) h]
    simp only [Option.bind_some]
    have j : paymasterlaw06_DatesBack.j0 1300 n false 401766 true 0 0 0 = some true := by
      simp only [paymasterlaw06_DatesBack.j0, if_true]
      rw [if_pos (by decide), if_neg (by simp), awake_eq (by omega)]
      rfl
    by_cases q : n < 0
    · rw [if_pos q]
      exact j
    · rw [if_neg q, decide_eq_true (by omega)]
      exact j
end Go.Proofs.Ytkfhclichfjhmaa.Pure
