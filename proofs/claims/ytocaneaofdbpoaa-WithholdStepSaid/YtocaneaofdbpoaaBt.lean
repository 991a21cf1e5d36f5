/- The reference's parts and taxes are the program's. -/
import Derived.Test.YtocaneaofdbpoaaBr
import Derived.Test.YtocaneaofdbpoaaBd
import Derived.Test.YtocaneaofdbpoaaPAx16
set_option linter.unusedVariables false
namespace Go.Proofs.Ytocaneaofdbpoaa.Wd
open Go.RowKit Go.Proofs.Ytocaneaofdbpoaa.PA Go.Proofs.YtocaneaofdbpoaaW.PrintWords Go.Proofs.YtocaneaofdbpoaaW.PrintMore
theorem refpart_eq {l : List S58} (h : RT l) {n : Nat} (hn : n < l.length) {a : Int} (a1 : a ≤ 9223372036854775807) : paymasterref05_Part.f l (n : Int) a = some (part l a n) := by
  have l12 := h.2.2
  have nn := above_nn h n hn
  unfold paymasterref05_Part.f part
  rw [if_pos (by omega), if_pos (by omega), row_rd, w64 (x := (n : Int) + 1) (by omega) (by omega), row_rd1]
  by_cases c : a ≤ (row l n).f0
  · rw [if_pos c, if_pos c]
  · rw [if_neg c, if_neg c]
    by_cases g : n + 1 < l.length
    · have up := above_lt h g
      rw [if_pos (c := (n : Int) + 1 < (l.length : Int)) (by omega), if_pos (by omega), if_pos g]
      by_cases z : a > (row l (n + 1)).f0
      · rw [if_pos z, w64 (by omega) (by omega)]
        congr 1
        omega
      · rw [if_neg z, w64 (by omega) (by omega)]
        congr 1
        omega
    · rw [if_neg (c := (n : Int) + 1 < (l.length : Int)) (by omega), if_neg g, w64 (by omega) (by omega)]
theorem refof_down {k : Nat} (hk : 20000 ≤ k) {p r : Int} (p0 : 0 ≤ p) (p1 : p ≤ 9223372036854775807) (r0 : 0 ≤ r) (r1 : r ≤ 10000) : paymasterref02_MulDiv.f k p r 10000 0 = some (p * r / 10000, true) := by
  have m0 : 0 ≤ p * r := Int.mul_nonneg p0 r0
  have m1 := Int.mul_le_mul_of_nonneg_left r1 p0
  have abn : ∀ t : Int, 0 ≤ t → ab t = t := fun t h => by unfold ab; rw [if_neg (by omega)]
  have ng : Neg3 p r 10000 = false := by unfold Neg3; rw [decide_eq_false (by omega), decide_eq_false (by omega), decide_eq_false (by omega)]; rfl
  rw [refmd_eq hk (by omega) (by omega) (by omega) (by omega) (by omega) (by omega) (by omega) (by omega) (by omega), abn p p0, abn r r0, show ab 10000 = 10000 from rfl, rq_down, if_neg (by omega), ng]
  rfl
theorem reftax_loop {l : List S58} (h : RT l) {a : Int} (a1 : a ≤ 9223372036854775807) (d : Nat) : ∀ (k n : Nat), n + d = l.length → d + 20001 ≤ k →
    paymasterref05_Tax.l0 k l a (tx l a n) (n : Int) = some (tx l a l.length) := by
  induction d with
  | zero =>
    intro k n hn hk
    obtain ⟨k, rfl⟩ : ∃ j, k = j + 1 := ⟨k - 1, by omega⟩
    simp only [paymasterref05_Tax.l0]
    rw [if_neg (by omega), show n = l.length by omega]
  | succ d ih =>
    intro k n hn hk
    obtain ⟨k, rfl⟩ : ∃ j, k = j + 1 := ⟨k - 1, by omega⟩
    have l12 := h.2.2
    have p := part_bd h (n := n) (by omega) a
    have o := (h.1 n (by omega)).2.2
    have t := tx_bd h a (n + 1) (by omega)
    have cl := cov_le (l := l) a (n + 1)
    simp only [paymasterref05_Tax.l0]
    rw [if_pos (by omega), refpart_eq h (by omega) a1, Option.bind_some, if_pos (by omega), row_rd, refof_down (by omega) p.1 (by omega) o.1 o.2, Option.bind_some]
    simp only [tx] at t
    rw [w64 (by omega) (by omega), w64 (x := (n : Int) + 1) (by omega) (by omega)]
    have := ih k (n + 1) (by omega) (by omega)
    rwa [show ((n + 1 : Nat) : Int) = (n : Int) + 1 by omega] at this
theorem reftax_eq {k : Nat} {l : List S58} (h : RT l) (hk : 20020 ≤ k) {a : Int} (a1 : a ≤ 9223372036854775807) : paymasterref05_Tax.f k l a = some (tx l a l.length) := by
  unfold paymasterref05_Tax.f
  exact reftax_loop h a1 l.length k 0 (by omega) (by have := h.2.2; omega)
end Go.Proofs.Ytocaneaofdbpoaa.Wd
