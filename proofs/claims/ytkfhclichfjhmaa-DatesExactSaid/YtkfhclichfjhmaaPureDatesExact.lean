/- Proved here: DatesExact as the print tells it, over numbers alone, for any three whole numbers; and its walk. -/
import Derived.Test.YtkfhclichfjhmaaPAx7
import Derived.Test.YtkfhclichfjhmaaDr
namespace Go.Proofs.Ytkfhclichfjhmaa.Pure
open Go.RowKit Go.Proofs.Ytkfhclichfjhmaa.PA Go.Proofs.YtkfhclichfjhmaaW.PrintWords Go.Proofs.YtkfhclichfjhmaaW.PrintLast
open Go.Proofs.Ytkfhclichfjhmaa.Dt

theorem refright_eq {k : Nat} (hk : 2 ≤ k) (y m d : Int) : paymasterref06_Right.f k y m d = some (decide (1 ≤ d ∧ d ≤ len y m)) := by
  unfold paymasterref06_Right.f
  by_cases h : d > 0
  · rw [if_pos h, reflen_eq (by omega)]
    simp only [Option.bind_some]
    congr 1
    by_cases h2 : d ≤ len y m
    · rw [decide_eq_true h2, decide_eq_true ⟨by omega, h2⟩]
    · rw [decide_eq_false h2, decide_eq_false (fun e => h2 e.2)]
  · rw [if_neg h, decide_eq_false (fun e => h (by omega))]

theorem DatesExact (y m d : Int) : ∃ k, paymasterlaw06_DatesExact.f k y m d = some true := by
  obtain ⟨k, hk⟩ : ∃ k : Nat, 1400 ≤ k := ⟨1400, Nat.le_refl _⟩
  refine ⟨k, ?_⟩
  unfold paymasterlaw06_DatesExact.f
  rw [refright_eq (by omega), right_eq (by omega), length_eq (by omega), reflen_eq (by omega)]
  unfold dates_Period.f
  rw [right_eq (by omega)]
  obtain ⟨k, rfl⟩ : ∃ j, k = j + 1 := ⟨k - 1, by omega⟩
  by_cases h : 1 ≤ d ∧ d ≤ len y m
  · obtain ⟨h1, h2⟩ := h
    obtain ⟨a, b, c, e, f⟩ := len_in h1 h2
    rw [number_yes (by omega) h1 h2, decide_eq_true (⟨h1, h2⟩ : 1 ≤ d ∧ d ≤ len y m)]
    simp only [Option.bind_some, if_true, bne_self_eq_false, Bool.false_eq_true, if_false, paymasterlaw06_DatesExact.j0]
    rw [refnum_eq (by omega) h1 h2]
    simp only [Option.bind_some, if_true]
    rw [awake_eq (by omega)]
    rfl
  · rw [number_no (by omega) h, decide_eq_false h]
    simp only [Option.bind_some, bne_self_eq_false, Bool.false_eq_true, if_false, paymasterlaw06_DatesExact.j0, if_true]
    rw [awake_eq (by omega)]
    rfl
theorem DatesExact_walk (y m d : Int) (w : World) (_ : (Lit.int .i64 y).wf = true) (_ : (Lit.int .i64 m).wf = true) (_ : (Lit.int .i64 d).wf = true) :
    Calls Try.prog 6 #[.agg #[.int .i64 y, .int .i64 m, .int .i64 d]] w fun e w' => e = .returned (.bool true) ∧ Below w.heap.size w w' := by
  obtain ⟨k, h⟩ := DatesExact y m d
  exact paymasterlaw06_DatesExact.calls k y m d true w h
end Go.Proofs.Ytkfhclichfjhmaa.Pure
