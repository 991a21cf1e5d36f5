/- Proved here: WideParts as the print tells it, over numbers alone, for any three numbers of 64 bits. -/
import Derived.Test.YtdochofgoobicaaPAx8
import Derived.Test.YtdochofgoobicaaWa
namespace Go.Proofs.Ytdochofgoobicaa.Pure
open Go.RowKit Go.Proofs.Ytdochofgoobicaa.PA Go.Proofs.YtdochofgoobicaaW.PrintWords Go.Proofs.YtdochofgoobicaaW.PrintLast
open Go.Proofs.Ytdochofgoobicaa.Wd

theorem WideParts : paymasterlaw02_WideParts.Pure := by
  intro a b c w0 w1 w2
  have A := wf_u64 w0
  have B := wf_u64 w1
  have C := wf_u64 w2
  obtain ⟨k, hk⟩ : ∃ k : Nat, 60 ≤ k := ⟨60, Nat.le_refl _⟩
  refine ⟨k, ?_⟩
  unfold paymasterlaw02_WideParts.f
  rw [w64 (x := a / 2) (by omega) (by omega), w64 (x := b / 2) (by omega) (by omega), w64 (x := c / 2) (by omega) (by omega)]
  have x0 : 0 ≤ a / 2 ∧ a / 2 ≤ 9223372036854775807 := by omega
  have y0 : 0 ≤ b / 2 ∧ b / 2 ≤ 9223372036854775807 := by omega
  have z0 : 0 ≤ c / 2 ∧ c / 2 ≤ 9223372036854775807 := by omega
  generalize a / 2 = x at *
  generalize b / 2 = y at *
  generalize c / 2 = z at *
  rw [muldiv_eq (by omega) (by omega) (by omega) (by omega) (by omega) (by omega) (by omega)]
  simp only [Option.bind_some]
  have aw := awake_eq (k := k) (by omega)
  by_cases hz : z = 0
  · subst hz
    rw [md_zero (by omega) (by omega) (by omega) (by omega), aw]
    simp
  have abx : ab x = x := by unfold ab; rw [if_neg (by omega)]
  have aby : ab y = y := by unfold ab; rw [if_neg (by omega)]
  have abz : ab z = z := by unfold ab; rw [if_neg (by omega)]
  rw [md_at (by omega) (by omega) (by omega) (by omega) (by omega) hz, abx, aby, abz, rq_down]
  have ng : Neg3 x y z = false := by unfold Neg3; rw [decide_eq_false (by omega), decide_eq_false (by omega), decide_eq_false (by omega)]; rfl
  rw [ng]
  have p0 : 0 ≤ x * y := Int.mul_nonneg x0.1 y0.1
  have e := Int.emod_add_mul_ediv (x * y) z
  have l0 := Int.emod_nonneg (x * y) hz
  have l1 := Int.emod_lt_of_pos (x * y) (by omega : 0 < z)
  have q0 : 0 ≤ x * y / z := Int.ediv_nonneg p0 z0.1
  rw [Int.mul_comm z] at e
  generalize x * y / z = q at *
  by_cases hq : 9223372036854775807 < q
  · rw [if_pos hq]
    simp only
    rw [if_neg (by omega), if_pos trivial, if_pos (by simp [hz]), aw]
    rfl
  · rw [if_neg hq]
    simp only [Bool.false_eq_true, if_false, if_true]
    rw [cmp_eq (by omega) (by omega) (by omega) (by omega) (by omega) (by omega) (by omega) (by omega) (by omega)]
    simp only [Option.bind_some]
    have s1 : sg (q * z) (x * y) ≤ 0 := by unfold sg; split <;> (try split) <;> omega
    rw [if_pos s1, if_pos s1]
    by_cases hm : q = 9223372036854775807
    · rw [if_pos hm, aw]
      rfl
    · rw [if_neg hm, w64 (x := q + 1) (by omega) (by omega), cmp_eq (by omega) (by omega) (by omega) (by omega) (by omega) (by omega) (by omega) (by omega) (by omega)]
      simp only [Option.bind_some]
      have s2 : sg ((q + 1) * z) (x * y) > 0 := by
        have : (q + 1) * z = q * z + z := by grind
        unfold sg
        rw [this, if_neg (by omega), if_neg (by omega)]
        omega
      rw [if_pos s2, aw]
      rfl
end Go.Proofs.Ytdochofgoobicaa.Pure
