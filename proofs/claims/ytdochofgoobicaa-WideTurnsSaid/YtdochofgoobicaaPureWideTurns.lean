/- Proved here: WideTurns as the print tells it, over numbers alone, for any four whole numbers. -/
import Derived.Test.YtdochofgoobicaaPAx8
import Derived.Test.YtdochofgoobicaaWa
namespace Go.Proofs.Ytdochofgoobicaa.Pure
open Go.RowKit Go.Proofs.Ytdochofgoobicaa.PA Go.Proofs.YtdochofgoobicaaW.PrintWords Go.Proofs.YtdochofgoobicaaW.PrintLast
open Go.Proofs.Ytdochofgoobicaa.Wd

theorem WideTurns : paymasterlaw02_WideTurns.Pure := by
  intro a b c d w0 w1 w2 w3
  have A := wf_i64 w0
  have B := wf_i64 w1
  have C := wf_i64 w2
  have D := wf_i64 w3
  obtain ⟨k, hk⟩ : ∃ k : Nat, 40 ≤ k := ⟨40, Nat.le_refl _⟩
  refine ⟨k, ?_⟩
  obtain ⟨k, rfl⟩ : ∃ j, k = j + 1 := ⟨k - 1, by omega⟩
  unfold paymasterlaw02_WideTurns.f
  have yes : paymasterlaw02_WideTurns.j0 (k + 1) a b c d true = some true := by
    simp only [paymasterlaw02_WideTurns.j0, if_true]
    rw [awake_eq (by omega)]
    rfl
  by_cases ha : a = -9223372036854775808
  · rw [if_pos ha, yes]
  rw [if_neg ha]
  by_cases hb : b = -9223372036854775808
  · rw [if_pos hb, yes]
  rw [if_neg hb]
  by_cases hc : c = -9223372036854775808
  · rw [if_pos hc, yes]
  rw [if_neg hc]
  by_cases hd : d = -9223372036854775808
  · rw [beq_iff_eq.2 hd, yes]
  rw [beq_eq_false_iff_ne.2 hd]
  simp only [paymasterlaw02_WideTurns.j0, Bool.false_eq_true, if_false]
  rw [w64 (x := -a) (by omega) (by omega), w64 (x := -b) (by omega) (by omega), w64 (x := -c) (by omega) (by omega)]
  have s := sg_bd (a * b) (c * d)
  have e1 : sg (b * a) (d * c) = sg (a * b) (c * d) := by rw [Int.mul_comm b, Int.mul_comm d]
  have e2 : sg (c * d) (a * b) = -sg (a * b) (c * d) := sg_swap _ _
  have e3 : sg (-a * -b) (c * d) = sg (a * b) (c * d) := by rw [Int.neg_mul_neg]
  have e4 : sg (-a * b) (-c * d) = -sg (a * b) (c * d) := by rw [Int.neg_mul, Int.neg_mul, sg_neg]
  rw [cmp_eq (by omega) A.1 A.2 B.1 B.2 C.1 C.2 D.1 D.2]
  simp only [Option.bind_some]
  rw [cmp_eq (by omega) B.1 B.2 A.1 A.2 D.1 D.2 C.1 C.2, e1]
  simp only [Option.bind_some, if_true]
  rw [w64 (x := -sg (a * b) (c * d)) (by omega) (by omega)]
  rw [cmp_eq (by omega) C.1 C.2 D.1 D.2 A.1 A.2 B.1 B.2, e2]
  simp only [Option.bind_some, if_true]
  rw [cmp_eq (by omega) (by omega) (by omega) (by omega) (by omega) C.1 C.2 D.1 D.2, e3]
  simp only [Option.bind_some, if_true]
  rw [cmp_eq (by omega) (by omega) (by omega) B.1 B.2 (by omega) (by omega) D.1 D.2, e4]
  simp only [Option.bind_some, if_true]
  rw [cmp_eq (by omega) A.1 A.2 B.1 B.2 A.1 A.2 B.1 B.2, sg_self]
  simp only [Option.bind_some, if_true]
  rw [awake_eq (by omega)]
  rfl
end Go.Proofs.Ytdochofgoobicaa.Pure
