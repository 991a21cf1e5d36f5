/- Proved here: WideCmp as the print tells it, over numbers alone, for any four whole numbers. -/
import Derived.Test.YtdochofgoobicaaPAx7
import Derived.Test.YtdochofgoobicaaBd
import Derived.Test.YtdochofgoobicaaWa
namespace Go.Proofs.Ytdochofgoobicaa.Pure
open Go.RowKit Go.Proofs.Ytdochofgoobicaa.PA Go.Proofs.YtdochofgoobicaaW.PrintWords Go.Proofs.YtdochofgoobicaaW.PrintLast
open Go.Proofs.Ytdochofgoobicaa.Wd

theorem compare_eq {k : Nat} (hk : 2000 ≤ k) {p q : Bool} {x y : List Int} (hx : Tr x) (hy : Tr y) (lx : x.length ≤ 1000) (ly : y.length ≤ 1000) {X Y : Int} (vx : val x = ab X) (vy : val y = ab Y) (hp : p = decide (X < 0)) (hq : q = decide (Y < 0)) :
    paymasterref02_Compare.f k p x q y = some (sg X Y) := by
  unfold paymasterref02_Compare.f
  rw [size_eq' hx hy lx ly (by omega), size_eq' hy hx ly lx (by omega), vx, vy, hp, hq]
  simp only [Option.bind_some]
  by_cases a : X < 0
  · by_cases b : Y < 0
    · rw [decide_eq_true a, decide_eq_true b]
      simp only [bne_self_eq_false, Bool.false_eq_true, if_false, if_true]
      congr 1
      unfold sg ab
      rw [if_pos a, if_pos b]
      split <;> split <;> (try split) <;> (try split) <;> omega
    · rw [decide_eq_true a, decide_eq_false b]
      simp only [Bool.bne_false, if_true]
      unfold sg
      rw [if_pos (show X < Y by omega)]
  · by_cases b : Y < 0
    · rw [decide_eq_false a, decide_eq_true b]
      simp only [Bool.false_bne, if_true, Bool.false_eq_true, if_false]
      unfold sg
      rw [if_neg (show ¬ X < Y by omega), if_neg (show ¬ X = Y by omega)]
    · rw [decide_eq_false a, decide_eq_false b]
      simp only [bne_self_eq_false, Bool.false_eq_true, if_false]
      congr 1
      unfold ab
      rw [if_neg a, if_neg b]
theorem big_eq {k : Nat} (hk : 6000 ≤ k) {a b : Int} (a0 : -9223372036854775808 ≤ a) (a1 : a ≤ 9223372036854775807) (b0 : -9223372036854775808 ≤ b) (b1 : b ≤ 9223372036854775807) :
    ∃ sa LA sb LB s L, paymasterref02_Of.f k a = some (sa, LA) ∧ paymasterref02_Of.f k b = some (sb, LB) ∧ paymasterref02_Mul.f k sa LA sb LB = some (s, L) ∧ Tr L ∧ L.length ≤ 40 ∧ val L = ab (a * b) ∧ s = decide (a * b < 0) := by
  obtain ⟨LA, eA, tA, vA, lA⟩ := of_eq (k := k) (by omega) a0 a1
  obtain ⟨LB, eB, tB, vB, lB⟩ := of_eq (k := k) (by omega) b0 b1
  obtain ⟨t, e, tt, v⟩ := mul_eq (k := k) (ma := decide (a < 0)) (mb := decide (b < 0)) tA.1 tB.1 (by omega) (by omega) (by omega) (by omega) (by omega)
  rw [vA, vB] at v
  have pb := mul_sizes a0 a1 b0 b1
  have p0 : 0 ≤ ab a * ab b := Int.mul_nonneg (ab_nn a) (ab_nn b)
  have mm := mul_ab a b
  have ll : t.length ≤ 40 := len_lt_of_val tt (n := 40) (by rw [v]; exact pb)
  have lt : 0 < (t.length : Int) ↔ 0 < ab a * ab b := by
    rw [← v]
    constructor
    · intro h
      exact val_pos tt (by intro e; rw [e] at h; simp at h)
    · intro h
      have hn : t ≠ [] := by intro e; rw [e] at h; simp [val] at h
      have := List.length_pos_iff.2 hn
      omega
  refine ⟨_, LA, _, LB, _, t, eA, eB, e, tt, ll, ?_, ?_⟩
  · rw [v, mm]
    generalize ab a * ab b = p at *
    unfold ab
    split <;> split <;> omega
  · rw [mm]
    generalize ab a * ab b = p at *
    by_cases h : (decide (a < 0) != decide (b < 0)) = true
    · rw [if_pos h, h, Bool.true_and, Bool.eq_iff_iff, decide_eq_true_eq, decide_eq_true_eq, lt]
      omega
    · rw [if_neg h, Bool.eq_false_iff.2 h, Bool.false_and, decide_eq_false (by omega)]
theorem cmp_of {k : Nat} {a b c d : Int} {sa sb sc sd s t : Bool} {LA LB LC LD L M : List Int} {x : Int} (eA : paymasterref02_Of.f k a = some (sa, LA)) (eB : paymasterref02_Of.f k b = some (sb, LB)) (eP : paymasterref02_Mul.f k sa LA sb LB = some (s, L)) (eC : paymasterref02_Of.f k c = some (sc, LC)) (eD : paymasterref02_Of.f k d = some (sd, LD)) (eQ : paymasterref02_Mul.f k sc LC sd LD = some (t, M))
    (e1 : wide_Cmp.f k a b c d = some x) (e2 : paymasterref02_Compare.f k s L t M = some x) (e3 : paymasterlaw02_awake.f k = some true) : paymasterlaw02_WideCmp.f k a b c d = some true := by
  unfold paymasterlaw02_WideCmp.f
  rw [eA, Option.bind_some]
  show (paymasterref02_Of.f k b).bind _ = _
  rw [eB, Option.bind_some]
  show (paymasterref02_Mul.f k sa LA sb LB).bind _ = _
  rw [eP, Option.bind_some]
  show (paymasterref02_Of.f k c).bind _ = _
  rw [eC, Option.bind_some]
  show (paymasterref02_Of.f k d).bind _ = _
  rw [eD, Option.bind_some]
  show (paymasterref02_Mul.f k sc LC sd LD).bind _ = _
  rw [eQ, Option.bind_some]
  show (wide_Cmp.f k a b c d).bind _ = _
  rw [e1, Option.bind_some]
  show (paymasterref02_Compare.f k s L t M).bind _ = _
  rw [e2, Option.bind_some, if_pos rfl, e3]
  rfl
theorem WideCmp : paymasterlaw02_WideCmp.Pure := by
  intro a b c d w0 w1 w2 w3
  have A := wf_i64 w0
  have B := wf_i64 w1
  have C := wf_i64 w2
  have D := wf_i64 w3
  obtain ⟨k, hk⟩ : ∃ k : Nat, 30000 ≤ k := ⟨30000, Nat.le_refl _⟩
  refine ⟨k, ?_⟩
  obtain ⟨sa, LA, sb, LB, s, L, eA, eB, eP, tL, lL, vL, hs⟩ := big_eq (k := k) (by omega) A.1 A.2 B.1 B.2
  obtain ⟨sc, LC, sd, LD, t, M, eC, eD, eQ, tM, lM, vM, ht⟩ := big_eq (k := k) (by omega) C.1 C.2 D.1 D.2
  exact cmp_of eA eB eP eC eD eQ (cmp_eq (by omega) A.1 A.2 B.1 B.2 C.1 C.2 D.1 D.2) (compare_eq (by omega) tL tM (by omega) (by omega) vL vM hs ht) (awake_eq (by omega))
end Go.Proofs.Ytdochofgoobicaa.Pure
