/- Plain laws of package wide: MulDiv is the quotient of the sizes, rounded by the mode, with the sign of the three; refused where it is no amount. -/
import Derived.Test.YtocaneaofdbpoaaWd
set_option linter.unusedVariables false
namespace Go.Proofs.Ytocaneaofdbpoaa.Wd
open Go.RowKit Go.Proofs.Ytocaneaofdbpoaa.PA Go.Proofs.YtocaneaofdbpoaaW.PrintWords Go.Proofs.YtocaneaofdbpoaaW.PrintMore

/-- Is one more asked for, of quotient q and rest l by c? -/
def More (mode q l c : Int) : Prop := (mode = 1 ∧ 0 < l) ∨ (2 ≤ mode ∧ (c < 2 * l ∨ (2 * l = c ∧ (mode = 2 ∨ q % 2 = 1))))
instance (mode q l c : Int) : Decidable (More mode q l c) := inferInstanceAs (Decidable ((mode = 1 ∧ 0 < l) ∨ (2 ≤ mode ∧ (c < 2 * l ∨ (2 * l = c ∧ (mode = 2 ∨ q % 2 = 1))))))
/-- The rounded quotient of two sizes. -/
def rq (p c mode : Int) : Int := p / c + (if More mode (p / c) (p % c) c then 1 else 0)
/-- Is the sign of a times b by c minus? -/
def Neg3 (a b c : Int) : Bool := (decide (a < 0) != decide (b < 0)) != decide (c < 0)
def md (a b c mode : Int) : Int × Int :=
  if mode < 0 ∨ 3 < mode then (0, 1) else if a = -9223372036854775808 ∨ b = -9223372036854775808 ∨ c = -9223372036854775808 then (0, 3) else if c = 0 then (0, 4) else
  if 9223372036854775807 < rq (ab a * ab b) (ab c) mode then (0, 3) else (if Neg3 a b c then -rq (ab a * ab b) (ab c) mode else rq (ab a * ab b) (ab c) mode, 0)

theorem up_eq {mode q l c : Int} (hm : 0 ≤ mode) (hm' : mode ≤ 3) (hq : 0 ≤ q) (hl : 0 ≤ l) (hc : l < c) (hc' : c < 18446744073709551616) : wide_up.f mode q l c = some (decide (More mode q l c)) := by
  unfold wide_up.f
  rw [u64w (x := c - l) (by omega) (by omega), Int.tmod_eq_emod_of_nonneg hq]
  by_cases h0 : mode = 0
  · rw [if_pos h0, decide_eq_false (show ¬ More mode q l c by unfold More; omega)]
  rw [if_neg h0]
  by_cases h1 : mode = 1
  · rw [if_pos h1]
    congr 1
    by_cases z : 0 < l
    · rw [decide_eq_true z, decide_eq_true (show More mode q l c by unfold More; omega)]
    · rw [decide_eq_false z, decide_eq_false (show ¬ More mode q l c by unfold More; omega)]
  rw [if_neg h1]
  by_cases h2 : l > c - l
  · rw [if_pos h2, decide_eq_true (show More mode q l c by unfold More; omega)]
  rw [if_neg h2]
  by_cases h3 : l < c - l
  · rw [if_pos h3, decide_eq_false (show ¬ More mode q l c by unfold More; omega)]
  rw [if_neg h3, if_neg (by omega)]
  by_cases h4 : mode = 2
  · rw [if_pos h4, decide_eq_true (show More mode q l c by unfold More; omega)]
  rw [if_neg h4]
  congr 1
  by_cases z : q % 2 = 1
  · rw [beq_iff_eq.2 z, decide_eq_true (show More mode q l c by unfold More; omega)]
  · rw [beq_eq_false_iff_ne.2 z, decide_eq_false (show ¬ More mode q l c by unfold More; omega)]

theorem rq_lo (p c mode : Int) : p / c ≤ rq p c mode ∧ rq p c mode ≤ p / c + 1 := by unfold rq; split <;> omega
theorem rq_nn {p c mode : Int} (hp : 0 ≤ p) (hc : 0 ≤ c) : 0 ≤ rq p c mode := by have := rq_lo p c mode; have := Int.ediv_nonneg hp hc; omega

theorem muldiv_end {k : Nat} (hk : 2 ≤ k) {a b c q : Int} (h0 : 0 ≤ q) (u : Bool) (hq : q ≤ 9223372036854775807 ∨ (u = false ∧ q < 18446744073709551616)) :
    wide_MulDiv.j2 k a b c q u = some (if 9223372036854775807 < q + (if u then 1 else 0) then (0, 3) else (if Neg3 a b c then -(q + (if u then 1 else 0)) else q + (if u then 1 else 0), 0)) := by
  obtain ⟨k, rfl⟩ : ∃ j, k = j + 2 := ⟨k - 2, by omega⟩
  have e : wide_MulDiv.j2 (k + 2) a b c q u = wide_MulDiv.j3 (k + 1) a b c (q + (if u then 1 else 0)) := by
    simp only [wide_MulDiv.j2]
    cases u
    · simp
    · have hq' : q ≤ 9223372036854775807 := by
        rcases hq with h | h
        · exact h
        · exact absurd h.1 (by simp)
      rw [if_pos rfl, if_pos rfl, u64w (x := q + 1) (by omega) (by omega)]
  rw [e]
  have b0 : 0 ≤ q + (if u then 1 else 0) := by split <;> omega
  generalize q + (if u then 1 else 0) = Q at b0 ⊢
  simp only [wide_MulDiv.j3]
  by_cases h : Q > 9223372036854775807
  · rw [if_pos h, if_pos h]
  · rw [if_neg h, if_neg h, w64 (x := Q) (by omega) (by omega), w64 (by omega) (by omega)]
    unfold Neg3
    split <;> rfl

theorem ab_le {a : Int} (h0 : -9223372036854775807 ≤ a) (h1 : a ≤ 9223372036854775807) : 0 ≤ ab a ∧ ab a ≤ 9223372036854775807 := by unfold ab; split <;> omega
theorem muldiv_eq {k : Nat} (hk : 20 ≤ k) {a b c mode : Int} (a0 : -9223372036854775808 ≤ a) (a1 : a ≤ 9223372036854775807) (b0 : -9223372036854775808 ≤ b) (b1 : b ≤ 9223372036854775807) (c0 : -9223372036854775808 ≤ c) (c1 : c ≤ 9223372036854775807) :
    wide_MulDiv.f k a b c mode = some (md a b c mode) := by
  obtain ⟨k, rfl⟩ : ∃ j, k = j + 2 := ⟨k - 2, by omega⟩
  unfold wide_MulDiv.f md
  have bad : wide_MulDiv.j0 (k + 2) a b c mode true = some (0, 1) := by simp only [wide_MulDiv.j0, if_true]
  by_cases m0 : mode < 0
  · rw [if_pos m0, if_pos (Or.inl m0), bad]
  rw [if_neg m0]
  by_cases m1 : mode > 3
  · rw [decide_eq_true m1, if_pos (Or.inr m1), bad]
  rw [decide_eq_false m1, if_neg (by omega)]
  simp only [wide_MulDiv.j0, Bool.false_eq_true, if_false, money_Right.f, Option.bind_some, decide_eq_true_eq]
  have over : wide_MulDiv.j1 (k + 1) a b c mode true = some (0, 3) := by simp only [wide_MulDiv.j1, if_true]
  by_cases ra : a = -9223372036854775808
  · rw [if_neg (by omega), over, if_pos (Or.inl ra)]
  rw [if_pos (by omega)]
  by_cases rb : b = -9223372036854775808
  · rw [if_neg (by omega), over, if_pos (Or.inr (Or.inl rb))]
  rw [if_pos (by omega)]
  by_cases rc : c = -9223372036854775808
  · rw [decide_eq_false (by omega), Bool.not_false, over, if_pos (Or.inr (Or.inr rc))]
  rw [decide_eq_true (by omega), Bool.not_true, if_neg (by omega)]
  simp only [wide_MulDiv.j1, Bool.false_eq_true, if_false]
  by_cases rz : c = 0
  · rw [if_pos rz, if_pos rz]
  rw [if_neg rz, if_neg rz]
  have A := ab_le (a := a) (by omega) a1
  have B := ab_le (a := b) (by omega) b1
  have C := ab_le (a := c) (by omega) c1
  have Cp := ab_pos rz
  rw [size_eq a0 a1, size_eq b0 b1]
  simp only [Option.bind_some]
  rw [mul64_eq A.1 (by omega) B.1 (by omega)]
  simp only [Option.bind_some]
  rw [size_eq c0 c1]
  simp only [Option.bind_some]
  have P0 : 0 ≤ ab a * ab b := Int.mul_nonneg A.1 B.1
  generalize ab a * ab b = p at P0 ⊢
  generalize ab c = C0 at C Cp ⊢
  by_cases hi : p / 18446744073709551616 ≥ C0
  · rw [if_pos hi, if_pos]
    have l := rq_lo p C0 mode
    have := (Int.le_ediv_iff_mul_le (a := 18446744073709551616) (b := p) Cp).2 (by omega)
    omega
  · rw [if_neg hi, div64_eq (by omega) (by omega) (by omega) (by omega) (by omega) (by omega), show p / 18446744073709551616 * 18446744073709551616 + p % 18446744073709551616 = p by omega]
    simp only [Option.bind_some]
    have q0 : 0 ≤ p / C0 := Int.ediv_nonneg P0 (by omega)
    have q1 : p / C0 < 18446744073709551616 := Int.ediv_lt_of_lt_mul Cp (by omega)
    have l0 := Int.emod_nonneg p (by omega : C0 ≠ 0)
    have l1 := Int.emod_lt_of_pos p Cp
    unfold rq
    generalize p / C0 = q at *
    generalize p % C0 = l at *
    by_cases hq : q ≤ 9223372036854775807
    · rw [if_pos hq, up_eq (by omega) (by omega) q0 l0 l1 (by omega)]
      simp only [Option.bind_some]
      rw [muldiv_end (by omega) q0 _ (Or.inl hq)]
      simp only [decide_eq_true_eq]
    · rw [if_neg hq, muldiv_end (by omega) q0 _ (Or.inr ⟨rfl, by omega⟩)]
      rw [if_pos (by simp; omega), if_pos]
      split <;> omega

/-! ### which of two products is less -/
def sg (x y : Int) : Int := if x < y then -1 else if x = y then 0 else 1
theorem mul_ab (a b : Int) : a * b = if (decide (a < 0) != decide (b < 0)) = true then -(ab a * ab b) else ab a * ab b := by
  unfold ab
  by_cases h : a < 0 <;> by_cases g : b < 0 <;> simp [h, g] <;> grind
theorem sg_neg (x y : Int) : sg (-x) (-y) = -sg x y := by unfold sg; split <;> split <;> (try split) <;> (try split) <;> omega
theorem sg_swap (x y : Int) : sg y x = -sg x y := by unfold sg; split <;> split <;> (try split) <;> (try split) <;> omega
theorem sg_self (x : Int) : sg x x = 0 := by unfold sg; rw [if_neg (by omega), if_pos rfl]
theorem sg_bd (x y : Int) : -1 ≤ sg x y ∧ sg x y ≤ 1 := by unfold sg; split <;> (try split) <;> omega

/-! ### laws of the rounded quotient -/
theorem rq_mono {p p' c mode : Int} (hc : 0 < c) (h : p ≤ p') : rq p c mode ≤ rq p' c mode := by
  have e := Int.emod_add_mul_ediv p c
  have e' := Int.emod_add_mul_ediv p' c
  have l0 := Int.emod_nonneg p (by omega : c ≠ 0)
  have l1 := Int.emod_lt_of_pos p hc
  have l0' := Int.emod_nonneg p' (by omega : c ≠ 0)
  have l1' := Int.emod_lt_of_pos p' hc
  have q := Int.ediv_le_ediv hc h
  have a := rq_lo p c mode
  have a' := rq_lo p' c mode
  by_cases z : p / c = p' / c
  · have hl : p % c ≤ p' % c := by rw [z] at e; omega
    unfold rq
    rw [z]
    generalize p % c = l at *
    generalize p' % c = l' at *
    by_cases m : More mode (p' / c) l c
    · rw [if_pos m, if_pos]
      · omega
      · unfold More at m ⊢; omega
    · rw [if_neg m]
      split <;> omega
  · omega
theorem rq_twice {p c mode : Int} (hc : 0 < c) : rq (2 * p) (2 * c) mode = rq p c mode := by
  unfold rq
  rw [Int.mul_ediv_mul_of_pos _ _ (by omega : (0 : Int) < 2), Int.mul_emod_mul_of_pos _ _ (by omega : (0 : Int) < 2)]
  congr 1
  generalize p / c = q
  generalize p % c = l
  by_cases m : More mode q l c
  · rw [if_pos m, if_pos]
    unfold More at m ⊢; omega
  · rw [if_neg m, if_neg]
    unfold More at m ⊢; omega
theorem rq_one {p mode : Int} : rq p 1 mode = p := by
  unfold rq
  rw [Int.ediv_one, Int.emod_one, if_neg]
  · omega
  · unfold More; omega
theorem rq_self {p c mode : Int} (hc : 0 < c) : rq (p * c) c mode = p := by
  unfold rq
  rw [Int.mul_ediv_cancel _ (by omega), Int.mul_emod_left, if_neg]
  · omega
  · unfold More; omega
theorem rq_down {p c : Int} : rq p c 0 = p / c := by
  unfold rq
  rw [if_neg]
  · omega
  · unfold More; omega
/-- The answer at amounts, by a mode that is one. -/
theorem md_at {a b c mode : Int} (hm : 0 ≤ mode) (hm' : mode ≤ 3) (ha : a ≠ -9223372036854775808) (hb : b ≠ -9223372036854775808) (hc : c ≠ -9223372036854775808) (h0 : c ≠ 0) :
    md a b c mode = if 9223372036854775807 < rq (ab a * ab b) (ab c) mode then (0, 3) else (if Neg3 a b c then -rq (ab a * ab b) (ab c) mode else rq (ab a * ab b) (ab c) mode, 0) := by
  unfold md
  rw [if_neg (by omega), if_neg (by omega), if_neg h0]
theorem md_zero {a b mode : Int} (hm : 0 ≤ mode) (hm' : mode ≤ 3) (ha : a ≠ -9223372036854775808) (hb : b ≠ -9223372036854775808) : md a b 0 mode = (0, 4) := by
  unfold md
  rw [if_neg (by omega), if_neg (by omega), if_pos rfl]
end Go.Proofs.Ytocaneaofdbpoaa.Wd
