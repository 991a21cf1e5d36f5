/- Proved here: WideLines as the print tells it, over numbers alone, for any four numbers of 64 bits and a byte. -/
import Derived.Test.YtdochofgoobicaaPAx8
import Derived.Test.YtdochofgoobicaaWa
namespace Go.Proofs.Ytdochofgoobicaa.Pure
open Go.RowKit Go.Proofs.Ytdochofgoobicaa.PA Go.Proofs.YtdochofgoobicaaW.PrintWords Go.Proofs.YtdochofgoobicaaW.PrintLast
open Go.Proofs.Ytdochofgoobicaa.Wd

theorem WideLines : paymasterlaw02_WideLines.Pure := by
  intro a more b c mode w0 w1 w2 w3 w4
  have A := wf_u64 w0
  have A' := wf_u64 w1
  have B := wf_u64 w2
  have C := wf_u64 w3
  have M := wf_u8 w4
  obtain ⟨k, hk⟩ : ∃ k : Nat, 60 ≤ k := ⟨60, Nat.le_refl _⟩
  refine ⟨k, ?_⟩
  unfold paymasterlaw02_WideLines.f
  rw [Int.tmod_eq_emod_of_nonneg M.1, w64 (x := mode % 4) (by omega) (by omega), w64 (x := a / 8) (by omega) (by omega), w64 (x := more / 8) (by omega) (by omega), w64 (x := b / 4) (by omega) (by omega), w64 (x := c / 8) (by omega) (by omega)]
  rw [w64 (x := a / 8 + more / 8) (by omega) (by omega), w64 (x := 1 + c / 8) (by omega) (by omega), w64 (x := 2 * (a / 8)) (by omega) (by omega), w64 (x := 2 * (1 + c / 8)) (by omega) (by omega)]
  have m0 : 0 ≤ mode % 4 ∧ mode % 4 ≤ 3 := by omega
  have x0 : 0 ≤ a / 8 ∧ a / 8 ≤ 2305843009213693951 := by omega
  have x0' : a / 8 ≤ a / 8 + more / 8 ∧ a / 8 + more / 8 ≤ 4611686018427387902 := by omega
  have y0 : 0 ≤ b / 4 ∧ b / 4 ≤ 4611686018427387903 := by omega
  have z0 : 1 ≤ 1 + c / 8 ∧ 1 + c / 8 ≤ 2305843009213693952 := by omega
  generalize mode % 4 = m at *
  generalize a / 8 + more / 8 = w at *
  generalize a / 8 = x at *
  generalize b / 4 = y at *
  generalize 1 + c / 8 = z at *
  rw [muldiv_eq (by omega) (by omega) (by omega) (by omega) (by omega) (by omega) (by omega), muldiv_eq (by omega) (by omega) (by omega) (by omega) (by omega) (by omega) (by omega), muldiv_eq (by omega) (by omega) (by omega) (by omega) (by omega) (by omega) (by omega)]
  simp only [Option.bind_some]
  have abn : ∀ t : Int, 0 ≤ t → ab t = t := fun t h => by unfold ab; rw [if_neg (by omega)]
  have ng : ∀ t s r : Int, 0 ≤ t → 0 ≤ s → 0 ≤ r → Neg3 t s r = false := fun t s r h h' h'' => by unfold Neg3; rw [decide_eq_false (by omega), decide_eq_false (by omega), decide_eq_false (by omega)]; rfl
  have mono := rq_mono (p := x * y) (p' := w * y) (c := z) (mode := m) (by omega) (Int.mul_le_mul_of_nonneg_right x0'.1 y0.1)
  have tw : rq (2 * x * y) (2 * z) m = rq (x * y) z m := by rw [Int.mul_assoc, rq_twice (by omega)]
  have n0 := rq_nn (p := x * y) (c := z) (mode := m) (Int.mul_nonneg x0.1 y0.1) (by omega)
  rw [md_at m0.1 m0.2 (by omega) (by omega) (by omega) (by omega), md_at m0.1 m0.2 (by omega) (by omega) (by omega) (by omega), md_at m0.1 m0.2 (by omega) (by omega) (by omega) (by omega)]
  rw [abn x (by omega), abn y (by omega), abn z (by omega), abn w (by omega), abn (2 * x) (by omega), abn (2 * z) (by omega), ng _ _ _ (by omega) (by omega) (by omega), ng _ _ _ (by omega) (by omega) (by omega), ng _ _ _ (by omega) (by omega) (by omega), tw]
  generalize rq (x * y) z m = q at *
  generalize rq (w * y) z m = q' at *
  obtain ⟨k, rfl⟩ : ∃ j, k = j + 1 := ⟨k - 1, by omega⟩
  have aw := awake_eq (k := k) (by omega)
  by_cases h : 9223372036854775807 < q
  · rw [if_pos h, if_pos (show 9223372036854775807 < q' by omega)]
    simp only [paymasterlaw02_WideLines.j0]
    rw [aw]
    simp
  · rw [if_neg h]
    by_cases h' : 9223372036854775807 < q'
    · rw [if_pos h']
      simp only [paymasterlaw02_WideLines.j0]
      rw [aw]
      simp
    · rw [if_neg h']
      simp only [paymasterlaw02_WideLines.j0, Bool.false_eq_true, if_false, if_true]
      rw [aw]
      simp [mono]
end Go.Proofs.Ytdochofgoobicaa.Pure
