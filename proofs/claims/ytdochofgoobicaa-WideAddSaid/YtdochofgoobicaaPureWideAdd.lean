/- Proved here: WideAdd as the print tells it, over numbers alone, for any three numbers of 64 bits. -/
import Derived.Test.YtdochofgoobicaaPAx9
import Derived.Test.YtdochofgoobicaaWa
namespace Go.Proofs.Ytdochofgoobicaa.Pure
open Go.RowKit Go.Proofs.Ytdochofgoobicaa.PA Go.Proofs.YtdochofgoobicaaW.PrintWords Go.Proofs.YtdochofgoobicaaW.PrintLast
open Go.Proofs.Ytdochofgoobicaa.Wd

theorem WideAdd : paymasterlaw02_WideAdd.Pure := by
  intro a b c w0 w1 w2
  have A := wf_u64 w0
  have B := wf_u64 w1
  have C := wf_u64 w2
  obtain ⟨k, hk⟩ : ∃ k : Nat, 60 ≤ k := ⟨60, Nat.le_refl _⟩
  refine ⟨k, ?_⟩
  unfold paymasterlaw02_WideAdd.f
  rw [w64 (x := a / 16) (by omega) (by omega), w64 (x := b / 16) (by omega) (by omega), w64 (x := c / 16) (by omega) (by omega), w64 (x := 1 + c / 16) (by omega) (by omega), w64 (x := a / 16 + b / 16) (by omega) (by omega)]
  have x0 : 0 ≤ a / 16 ∧ a / 16 ≤ 1152921504606846975 := by omega
  have y0 : 0 ≤ b / 16 ∧ b / 16 ≤ 1152921504606846975 := by omega
  have z0 : 1 ≤ 1 + c / 16 ∧ 1 + c / 16 ≤ 1152921504606846976 := by omega
  generalize a / 16 = x at *
  generalize b / 16 = y at *
  generalize 1 + c / 16 = z at *
  have dn : ∀ t : Int, 0 ≤ t → t ≤ 4611686018427387904 → wide_MulDiv.f k t 1 z 0 = some (t / z, 0) := fun t h h' => by
    have q0 : 0 ≤ t / z := Int.ediv_nonneg h (by omega)
    have q1 := Int.ediv_le_self z h
    rw [muldiv_eq (by omega) (by omega) (by omega) (by omega) (by omega) (by omega) (by omega), md_at (by omega) (by omega) (by omega) (by omega) (by omega) (by omega)]
    have abt : ab t = t := by unfold ab; rw [if_neg (by omega)]
    have abz : ab z = z := by unfold ab; rw [if_neg (by omega)]
    have ng : Neg3 t 1 z = false := by unfold Neg3; rw [decide_eq_false (by omega), decide_eq_false (by omega), decide_eq_false (by omega)]; rfl
    rw [abt, abz, show ab 1 = 1 from rfl, Int.mul_one, rq_down, if_neg (by omega), ng]
    rfl
  rw [dn x x0.1 (by omega), dn y y0.1 (by omega), dn (x + y) (by omega) (by omega)]
  simp only [Option.bind_some, if_true]
  rw [if_neg (by omega), Int.tdiv_eq_ediv_of_nonneg x0.1]
  have px : 0 ≤ x / z := Int.ediv_nonneg x0.1 (by omega)
  have py : 0 ≤ y / z := Int.ediv_nonneg y0.1 (by omega)
  have qx := Int.ediv_le_self z x0.1
  have qy := Int.ediv_le_self z y0.1
  have qs := Int.ediv_le_self z (show 0 ≤ x + y by omega)
  have s1 : x / z + y / z ≤ (x + y) / z ∧ (x + y) / z ≤ x / z + y / z + 1 := by
    have ex := Int.emod_add_mul_ediv x z
    have ey := Int.emod_add_mul_ediv y z
    have lx := Int.emod_nonneg x (by omega : z ≠ 0)
    have ly := Int.emod_nonneg y (by omega : z ≠ 0)
    have lx' := Int.emod_lt_of_pos x (by omega : 0 < z)
    have ly' := Int.emod_lt_of_pos y (by omega : 0 < z)
    have e : x + y = (x % z + y % z) + (x / z + y / z) * z := by grind
    rw [e, Int.add_mul_ediv_right _ _ (by omega)]
    have r0 : 0 ≤ (x % z + y % z) / z := Int.ediv_nonneg (by omega) (by omega)
    have r1 : (x % z + y % z) / z < 2 := Int.ediv_lt_of_lt_mul (by omega) (by omega)
    omega
  rw [w64 (x := x / z) (by omega) (by omega), if_pos rfl, w64 (x := x / z + y / z) (by omega) (by omega), if_pos s1.1, w64 (x := (x + y) / z - x / z) (by omega) (by omega), w64 (by omega) (by omega), if_pos (by omega), awake_eq (by omega)]
  rfl
end Go.Proofs.Ytdochofgoobicaa.Pure
