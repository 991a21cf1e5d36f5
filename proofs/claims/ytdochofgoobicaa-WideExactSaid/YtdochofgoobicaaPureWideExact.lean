/- Proved here: WideExact as the print tells it, over numbers alone, for any four whole numbers. -/
import Derived.Test.YtdochofgoobicaaPAx7
import Derived.Test.YtdochofgoobicaaBd
import Derived.Test.YtdochofgoobicaaWa
namespace Go.Proofs.Ytdochofgoobicaa.Pure
open Go.RowKit Go.Proofs.Ytdochofgoobicaa.PA Go.Proofs.YtdochofgoobicaaW.PrintWords Go.Proofs.YtdochofgoobicaaW.PrintLast
open Go.Proofs.Ytdochofgoobicaa.Wd

theorem WideExact : paymasterlaw02_WideExact.Pure := by
  intro a b c mode w0 w1 w2 w3
  have A := wf_i64 w0
  have B := wf_i64 w1
  have C := wf_i64 w2
  obtain ⟨k, hk⟩ : ∃ k : Nat, 30000 ≤ k := ⟨30000, Nat.le_refl _⟩
  refine ⟨k, ?_⟩
  obtain ⟨k, rfl⟩ : ∃ j, k = j + 2 := ⟨k - 2, by omega⟩
  unfold paymasterlaw02_WideExact.f
  rw [muldiv_eq (by omega) A.1 A.2 B.1 B.2 C.1 C.2, Option.bind_some]
  have aw1 := awake_eq (k := k + 1) (by omega)
  have aw := awake_eq (k := k) (by omega)
  have bad : mode < 0 ∨ 3 < mode → paymasterlaw02_WideExact.j0 (k + 2) a b c mode (md a b c mode).1 (md a b c mode).2 0 0 true = some true := by
    intro h
    have e : md a b c mode = (0, 1) := by unfold md; rw [if_pos h]
    rw [e]
    simp only [paymasterlaw02_WideExact.j0, if_true]
    rw [aw1]
    rfl
  by_cases m0 : mode < 0
  · rw [if_pos m0]
    exact bad (Or.inl m0)
  rw [if_neg m0]
  by_cases m1 : mode > 3
  · rw [decide_eq_true m1]
    exact bad (Or.inr m1)
  rw [decide_eq_false m1]
  simp only [paymasterlaw02_WideExact.j0, Bool.false_eq_true, if_false, paymasterref01_Right.f, Option.bind_some]
  have over : a = -9223372036854775808 ∨ b = -9223372036854775808 ∨ c = -9223372036854775808 → paymasterlaw02_WideExact.j1 (k + 1) a b c mode (md a b c mode).1 (md a b c mode).2 0 0 true = some true := by
    intro h
    have e : md a b c mode = (0, 3) := by unfold md; rw [if_neg (by omega), if_pos h]
    rw [e]
    simp only [paymasterlaw02_WideExact.j1, if_true]
    rw [aw]
    rfl
  by_cases ra : a = -9223372036854775808
  · rw [if_neg (by simp [ra])]
    exact over (Or.inl ra)
  rw [if_pos (by simp [ra])]
  by_cases rb : b = -9223372036854775808
  · rw [if_neg (by simp [rb])]
    exact over (Or.inr (Or.inl rb))
  rw [if_pos (by simp [rb])]
  by_cases rc : c = -9223372036854775808
  · rw [show (!(c != -9223372036854775808)) = true by simp [rc]]
    exact over (Or.inr (Or.inr rc))
  rw [show (!(c != -9223372036854775808)) = false by simp [rc]]
  simp only [paymasterlaw02_WideExact.j1, Bool.false_eq_true, if_false]
  by_cases rz : c = 0
  · subst rz
    rw [md_zero (by omega) (by omega) ra rb]
    simp only [if_true]
    rw [aw]
    rfl
  rw [if_neg rz, refmd_eq (by omega) A.1 A.2 B.1 B.2 C.1 C.2 rz (by omega) (by omega), Option.bind_some, md_at (by omega) (by omega) ra rb rc rz, aw]
  generalize rq (ab a * ab b) (ab c) mode = q
  by_cases h : 9223372036854775807 < q
  · rw [if_pos h, if_pos h]
    simp
  · rw [if_neg h, if_neg h]
    simp
end Go.Proofs.Ytdochofgoobicaa.Pure
