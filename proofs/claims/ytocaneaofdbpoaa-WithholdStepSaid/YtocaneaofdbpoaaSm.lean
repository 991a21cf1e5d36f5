/- A year is the same as itself, as the reference's function tells it. -/
import Derived.Test.YtocaneaofdbpoaaWs
import Derived.Test.YtocaneaofdbpoaaPAx10
set_option linter.unusedVariables false
namespace Go.Proofs.Ytocaneaofdbpoaa.Wd
open Go.RowKit Go.Proofs.Ytocaneaofdbpoaa.PA Go.Proofs.YtocaneaofdbpoaaW.PrintWords Go.Proofs.YtocaneaofdbpoaaW.PrintMore
theorem same_l1 {t b x : Int} {P O : List Int} (hO : O.length ≤ 1000) (d : Nat) : ∀ (k n : Nat), n + d = O.length → d + 1 ≤ k → paymasterref14_Same.l1 k (n : Int) t b x P O t b x P O = some true := by
  induction d with
  | zero =>
    intro k n hn hk
    obtain ⟨k, rfl⟩ : ∃ j, k = j + 1 := ⟨k - 1, by omega⟩
    simp only [paymasterref14_Same.l1]
    rw [if_neg (by omega)]
  | succ d ih =>
    intro k n hn hk
    obtain ⟨k, rfl⟩ : ∃ j, k = j + 1 := ⟨k - 1, by omega⟩
    simp only [paymasterref14_Same.l1]
    rw [if_pos (by omega), if_pos (by omega), if_pos (by omega), if_pos trivial, w64 (by omega) (by omega)]
    have := ih k (n + 1) (by omega) (by omega)
    rwa [show ((n + 1 : Nat) : Int) = (n : Int) + 1 by omega] at this
theorem same_l0 {t b x : Int} {P O : List Int} (hP : P.length ≤ 1000) (hO : O.length ≤ 1000) (d : Nat) : ∀ (k n : Nat), n + d = P.length → d + O.length + 2 ≤ k → paymasterref14_Same.l0 k (n : Int) t b x P O t b x P O = some true := by
  induction d with
  | zero =>
    intro k n hn hk
    obtain ⟨k, rfl⟩ : ∃ j, k = j + 1 := ⟨k - 1, by omega⟩
    simp only [paymasterref14_Same.l0]
    rw [if_neg (by omega)]
    exact same_l1 hO O.length k 0 (by omega) (by omega)
  | succ d ih =>
    intro k n hn hk
    obtain ⟨k, rfl⟩ : ∃ j, k = j + 1 := ⟨k - 1, by omega⟩
    simp only [paymasterref14_Same.l0]
    rw [if_pos (by omega), if_pos (by omega), if_pos (by omega), if_pos trivial, w64 (by omega) (by omega)]
    have := ih k (n + 1) (by omega) (by omega)
    rwa [show ((n + 1 : Nat) : Int) = (n : Int) + 1 by omega] at this
/-- A year is the same as itself. -/
theorem same_eq {k : Nat} {P O : List Int} (hP : P.length ≤ 100) (hO : O.length ≤ 100) (hk : 300 ≤ k) (t b x : Int) : paymasterref14_Same.f k t b x P O t b x P O = some true := by
  obtain ⟨j, rfl⟩ : ∃ j, k = j + 1 := ⟨k - 1, by omega⟩
  unfold paymasterref14_Same.f
  rw [if_pos rfl, if_pos rfl, if_pos rfl, if_pos rfl, bne_self_eq_false]
  simp only [paymasterref14_Same.j0]
  rw [if_neg (by simp)]
  exact same_l0 (by omega) (by omega) P.length j 0 (by omega) (by omega)
end Go.Proofs.Ytocaneaofdbpoaa.Wd
