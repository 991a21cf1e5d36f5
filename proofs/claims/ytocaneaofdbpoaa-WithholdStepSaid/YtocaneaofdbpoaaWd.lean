/- Plain laws of words of 64 bits: the product of two in two words, and two words by one: what math/bits' Mul64 and Div64, as the print tells them, come to. -/
import Derived.Test.YtocaneaofdbpoaaPAx3
import Derived.Lib.ItoaNum
import Derived.Laws.BitsAllLaws
set_option linter.unusedVariables false
namespace Go.Proofs.Ytocaneaofdbpoaa.Wd
open Go.RowKit Go.Proofs.Ytocaneaofdbpoaa.PA Go.Proofs.YtocaneaofdbpoaaW.PrintWords Go.Proofs.YtocaneaofdbpoaaW.PrintMore

theorem u64m (x : Int) : IntKind.u64.wrap x = x % 18446744073709551616 := by simp [IntKind.wrap, IntKind.bits, IntKind.signed]
theorem u64w {x : Int} (h0 : 0 ≤ x) (h1 : x < 18446744073709551616) : IntKind.u64.wrap x = x := by rw [u64m]; omega
theorem w64 {x : Int} (h0 : -9223372036854775808 ≤ x) (h1 : x ≤ 9223372036854775807) : wrap64 x = x := by unfold wrap64; omega
theorem and32 {x : Int} (h0 : 0 ≤ x) (h1 : x < 18446744073709551616) : Go.bits .and .u64 x 4294967295 = x % 4294967296 := by
  rw [u64_and x 4294967295 h0 h1 (by omega) (by omega)]
  rw [show (4294967295 : Int).toNat = 2 ^ 32 - 1 from rfl, Nat.and_two_pow_sub_one_eq_mod]
  omega

/-- A number's size. -/
def ab (a : Int) : Int := if a < 0 then -a else a
theorem ab_nn (a : Int) : 0 ≤ ab a := by unfold ab; split <;> omega
theorem ab_pos {a : Int} (h : a ≠ 0) : 0 < ab a := by unfold ab; split <;> omega
theorem ab_neg (a : Int) : ab (-a) = ab a := by unfold ab; split <;> split <;> omega
theorem size_eq {a : Int} (h0 : -9223372036854775808 ≤ a) (h1 : a ≤ 9223372036854775807) : wide_size.f a = some (ab a) := by
  unfold wide_size.f ab
  split
  · rw [u64m, u64m]; congr 1; omega
  · rw [u64m]; congr 1; omega

theorem mul64_eq {x y : Int} (hx : 0 ≤ x) (hx' : x < 18446744073709551616) (hy : 0 ≤ y) (hy' : y < 18446744073709551616) :
    bits_Mul64.f x y = some (x * y / 18446744073709551616, x * y % 18446744073709551616) := by
  have ex : x = x / 4294967296 * 4294967296 + x % 4294967296 := by omega
  have ey : y = y / 4294967296 * 4294967296 + y % 4294967296 := by omega
  have b1 : 0 ≤ x / 4294967296 ∧ x / 4294967296 ≤ 4294967295 := by omega
  have b2 : 0 ≤ x % 4294967296 ∧ x % 4294967296 ≤ 4294967295 := by omega
  have b3 : 0 ≤ y / 4294967296 ∧ y / 4294967296 ≤ 4294967295 := by omega
  have b4 : 0 ≤ y % 4294967296 ∧ y % 4294967296 ≤ 4294967295 := by omega
  unfold bits_Mul64.f
  rw [and32 hx hx', and32 hy hy']
  generalize x / 4294967296 = x1 at ex b1 ⊢
  generalize x % 4294967296 = x0 at ex b2 ⊢
  generalize y / 4294967296 = y1 at ey b3 ⊢
  generalize y % 4294967296 = y0 at ey b4 ⊢
  have e : x * y = x1 * y1 * 18446744073709551616 + (x1 * y0 + x0 * y1) * 4294967296 + x0 * y0 := by subst ex ey; grind
  rw [e]
  have p11 : 0 ≤ x1 * y1 ∧ x1 * y1 ≤ 18446744065119617025 := ⟨Int.mul_nonneg b1.1 b3.1, Int.le_trans (Int.mul_le_mul b1.2 b3.2 b3.1 (by omega)) (by omega)⟩
  have p10 : 0 ≤ x1 * y0 ∧ x1 * y0 ≤ 18446744065119617025 := ⟨Int.mul_nonneg b1.1 b4.1, Int.le_trans (Int.mul_le_mul b1.2 b4.2 b4.1 (by omega)) (by omega)⟩
  have p01 : 0 ≤ x0 * y1 ∧ x0 * y1 ≤ 18446744065119617025 := ⟨Int.mul_nonneg b2.1 b3.1, Int.le_trans (Int.mul_le_mul b2.2 b3.2 b3.1 (by omega)) (by omega)⟩
  have p00 : 0 ≤ x0 * y0 ∧ x0 * y0 ≤ 18446744065119617025 := ⟨Int.mul_nonneg b2.1 b4.1, Int.le_trans (Int.mul_le_mul b2.2 b4.2 b4.1 (by omega)) (by omega)⟩
  have hp : 0 ≤ x * y := Int.mul_nonneg hx hy
  generalize x1 * y1 = P11 at e p11 ⊢
  generalize x1 * y0 = P10 at e p10 ⊢
  generalize x0 * y1 = P01 at e p01 ⊢
  generalize x0 * y0 = P00 at e p00 ⊢
  rw [u64w (x := P00) (by omega) (by omega), u64w (x := P10) (by omega) (by omega), u64w (x := P01) (by omega) (by omega), u64w (x := P11) (by omega) (by omega), u64w (x := P10 + P00 / 4294967296) (by omega) (by omega)]
  rw [and32 (by omega) (by omega), u64w (x := (P10 + P00 / 4294967296) % 4294967296 + P01) (by omega) (by omega)]
  have t1 : (P10 + P00 / 4294967296) / 4294967296 + ((P10 + P00 / 4294967296) % 4294967296 + P01) / 4294967296 = ((P10 + P01) * 4294967296 + P00) / 18446744073709551616 := by omega
  have t2 : (P11 * 18446744073709551616 + (P10 + P01) * 4294967296 + P00) / 18446744073709551616 = P11 + ((P10 + P01) * 4294967296 + P00) / 18446744073709551616 := by omega
  have t3 : P11 * 18446744073709551616 + (P10 + P01) * 4294967296 + P00 < 340282366920938463463374607431768211456 := by
    rw [← e]
    have := Int.mul_le_mul (show x ≤ 18446744073709551615 by omega) (show y ≤ 18446744073709551615 by omega) hy (by omega)
    omega
  rw [u64w (x := P11 + (P10 + P00 / 4294967296) / 4294967296) (by omega) (by omega), u64w (by omega) (by omega), u64m]
  congr 2
  omega

/-! ### two words by one, digit by digit -/
section
variable {v a b u d : Int}
/-- What one digit of the quotient is, and the bounds by which it is found. -/
theorem digit (hv : v = a * 4294967296 + b) (hb : 0 ≤ b ∧ b < 4294967296) (ha : 2147483648 ≤ a ∧ a < 4294967296) (hu : 0 ≤ u ∧ u < v) (hd : 0 ≤ d ∧ d < 4294967296) :
    0 ≤ (u * 4294967296 + d) / v ∧ (u * 4294967296 + d) / v < 4294967296 ∧ (u * 4294967296 + d) / v * v ≤ u * 4294967296 + d ∧ u * 4294967296 + d < (u * 4294967296 + d) / v * v + v := by
  have hv0 : 0 < v := by omega
  have e := Int.emod_add_mul_ediv (u * 4294967296 + d) v
  have m0 := Int.emod_nonneg (u * 4294967296 + d) (by omega : v ≠ 0)
  have m1 := Int.emod_lt_of_pos (u * 4294967296 + d) hv0
  have n0 : 0 ≤ (u * 4294967296 + d) / v := Int.ediv_nonneg (by omega) (by omega)
  have n1 : (u * 4294967296 + d) / v < 4294967296 := Int.ediv_lt_of_lt_mul hv0 (by omega)
  rw [Int.mul_comm v] at e
  refine ⟨n0, n1, by omega, by omega⟩
theorem above (hv : v = a * 4294967296 + b) (hb : 0 ≤ b ∧ b < 4294967296) (ha : 2147483648 ≤ a ∧ a < 4294967296) {q r : Int} (he : u = q * a + r) :
    (q * b > 4294967296 * r + d ↔ q > (u * 4294967296 + d) / v) := by
  have hv0 : 0 < v := by omega
  have e : q * v = (u - r) * 4294967296 + q * b := by rw [he, hv]; grind
  have l := Int.le_ediv_iff_mul_le (a := q) (b := u * 4294967296 + d) hv0
  constructor
  · intro h
    have : ¬ q ≤ (u * 4294967296 + d) / v := fun z => by have := l.1 z; omega
    omega
  · intro h
    have : ¬ q * v ≤ u * 4294967296 + d := fun z => by have := l.2 z; omega
    omega
/-- Where the rest has passed a word's half the digit is found. -/
theorem passed (hv : v = a * 4294967296 + b) (hb : 0 ≤ b ∧ b < 4294967296) (ha : 2147483648 ≤ a ∧ a < 4294967296) (hd : 0 ≤ d ∧ d < 4294967296) {q r : Int} (he : u = q * a + r) (hq : q ≤ 4294967296) (hr : 4294967296 ≤ r) :
    q ≤ (u * 4294967296 + d) / v := by
  have hv0 : 0 < v := by omega
  have e : q * v = (u - r) * 4294967296 + q * b := by rw [he, hv]; grind
  refine (Int.le_ediv_iff_mul_le hv0).2 ?_
  by_cases q0 : 0 ≤ q
  · have := Int.mul_le_mul hq (show b ≤ 4294967295 by omega) hb.1 (by omega)
    omega
  · have := Int.mul_nonneg (a := -q) (b := b) (by omega) hb.1
    rw [Int.neg_mul] at this
    omega
theorem first_guess (hv : v = a * 4294967296 + b) (hb : 0 ≤ b ∧ b < 4294967296) (ha : 2147483648 ≤ a ∧ a < 4294967296) (hu : 0 ≤ u ∧ u < v) (hd : 0 ≤ d ∧ d < 4294967296) :
    (u * 4294967296 + d) / v ≤ u / a ∧ u / a ≤ 4294967297 ∧ u = u / a * a + u % a ∧ 0 ≤ u % a ∧ u % a < a ∧ 0 ≤ u / a := by
  have e := Int.emod_add_mul_ediv u a
  rw [Int.mul_comm a] at e
  have m0 := Int.emod_nonneg u (by omega : a ≠ 0)
  have m1 := Int.emod_lt_of_pos u (by omega : 0 < a)
  have n0 : 0 ≤ u / a := Int.ediv_nonneg hu.1 (by omega)
  have n1 : u / a < 4294967298 := Int.ediv_lt_of_lt_mul (by omega) (by omega)
  have f := above (u := u) (d := d) hv hb ha (q := u / a + 1) (r := u % a - a) (by grind)
  have g : (u / a + 1) * b ≥ 0 := Int.mul_nonneg (by omega) hb.1
  have := f.1 (by omega)
  refine ⟨by omega, by omega, by omega, m0, m1, n0⟩
end

theorem div_l0 {v s a b u un1 un0 : Int} {K : Nat} {R : Int × Int} (hv : v = a * 4294967296 + b) (hb : 0 ≤ b ∧ b < 4294967296) (ha : 2147483648 ≤ a ∧ a < 4294967296) (hd : 0 ≤ un1 ∧ un1 < 4294967296)
    (hu : 0 ≤ u ∧ u < v) (hR : ∀ j, K ≤ j → bits_Div64.j2 j v s a b u un1 un0 ((u * 4294967296 + un1) / v) = some R) (n : Nat) :
    ∀ (k : Nat) (q r : Int), u = q * a + r → 0 ≤ r → r < 4294967296 → 4294967296 - r ≤ n * 2147483648 → q ≤ 4294967297 → (u * 4294967296 + un1) / v ≤ q → K + 2 * n + 2 ≤ k → bits_Div64.l0 k v s a b u un1 un0 q r = some R := by
  obtain ⟨z0, z1, z2, z3⟩ := digit hv hb ha hu hd
  induction n with
  | zero => intro k q r _ _ h h'; omega
  | succ n ih =>
    intro k q r he h0 h1 hm hq hs hk
    obtain ⟨k, rfl⟩ : ∃ j, k = j + 2 := ⟨k - 2, by omega⟩
    have ab := above (u := u) (d := un1) hv hb ha he
    have go : q > (u * 4294967296 + un1) / v → bits_Div64.j1 (k + 1) v s a b u un1 un0 q r true = some R := by
      intro hgt
      have he' : u = (q - 1) * a + (r + a) := by rw [he]; grind
      simp only [bits_Div64.j1, if_true]
      rw [u64w (x := r + a) (by omega) (by omega), u64w (x := q - 1) (by omega) (by omega)]
      by_cases hr : r + a ≥ 4294967296
      · rw [if_pos hr]
        have := passed hv hb ha hd he' (by omega) hr
        rw [show q - 1 = (u * 4294967296 + un1) / v by omega]
        exact hR k (by omega)
      · rw [if_neg hr]
        exact ih k (q - 1) (r + a) he' (by omega) (by omega) (by omega) (by omega) (by omega) (by omega)
    simp only [bits_Div64.l0]
    by_cases h : q ≥ 4294967296
    · rw [if_pos h]
      exact go (by omega)
    · rw [if_neg h]
      have pb : 0 ≤ q * b ∧ q * b ≤ 4294967295 * 4294967295 := ⟨Int.mul_nonneg (by omega) hb.1, Int.mul_le_mul (by omega) (by omega) hb.1 (by omega)⟩
      rw [u64w (x := q * b) (by omega) (by omega), u64w (x := 4294967296 * r) (by omega) (by omega), u64w (x := 4294967296 * r + un1) (by omega) (by omega)]
      by_cases c : q * b > 4294967296 * r + un1
      · rw [decide_eq_true c]
        exact go (ab.1 c)
      · rw [decide_eq_false c]
        simp only [bits_Div64.j1, Bool.false_eq_true, if_false]
        have : ¬ q > (u * 4294967296 + un1) / v := fun z => c (ab.2 z)
        rw [show q = (u * 4294967296 + un1) / v by omega]
        exact hR k (by omega)
theorem div_l1 {v s a b u un0 q1 : Int} (hv : v = a * 4294967296 + b) (hb : 0 ≤ b ∧ b < 4294967296) (ha : 2147483648 ≤ a ∧ a < 4294967296) (hd : 0 ≤ un0 ∧ un0 < 4294967296)
    (hu : 0 ≤ u ∧ u < v) (hq1 : 0 ≤ q1 ∧ q1 < 4294967296) (hs0 : 0 ≤ s) (n : Nat) :
    ∀ (k : Nat) (q r : Int), u = q * a + r → 0 ≤ r → r < 4294967296 → 4294967296 - r ≤ n * 2147483648 → q ≤ 4294967297 → (u * 4294967296 + un0) / v ≤ q → 2 * n + 2 ≤ k →
    bits_Div64.l1 k v s a b un0 q1 r u q = some (q1 * 4294967296 + (u * 4294967296 + un0) / v, shr .u64 ((u * 4294967296 + un0) % v) s) := by
  obtain ⟨z0, z1, z2, z3⟩ := digit hv hb ha hu hd
  have hv1 : v < 18446744073709551616 := by omega
  have fin : IntKind.u64.wrap (IntKind.u64.wrap (IntKind.u64.wrap (u * 4294967296) + un0) - IntKind.u64.wrap ((u * 4294967296 + un0) / v * v)) = (u * 4294967296 + un0) % v := by
    have e := Int.emod_add_mul_ediv (u * 4294967296 + un0) v
    rw [Int.mul_comm v] at e
    have m0 := Int.emod_nonneg (u * 4294967296 + un0) (by omega : v ≠ 0)
    have m1 := Int.emod_lt_of_pos (u * 4294967296 + un0) (by omega : 0 < v)
    rw [u64m, u64m, u64m, u64m]
    generalize (u * 4294967296 + un0) % v = R at *
    generalize (u * 4294967296 + un0) / v * v = Q at *
    omega
  induction n with
  | zero => intro k q r _ _ h h'; omega
  | succ n ih =>
    intro k q r he h0 h1 hm hq hs hk
    obtain ⟨k, rfl⟩ : ∃ j, k = j + 2 := ⟨k - 2, by omega⟩
    have ab := above (u := u) (d := un0) hv hb ha he
    have go : q > (u * 4294967296 + un0) / v → bits_Div64.j4 (k + 1) v s a b un0 q1 r u q true = some (q1 * 4294967296 + (u * 4294967296 + un0) / v, shr .u64 ((u * 4294967296 + un0) % v) s) := by
      intro hgt
      have he' : u = (q - 1) * a + (r + a) := by rw [he]; grind
      simp only [bits_Div64.j4, if_true]
      rw [u64w (x := r + a) (by omega) (by omega), u64w (x := q - 1) (by omega) (by omega)]
      by_cases hr : r + a ≥ 4294967296
      · rw [if_pos hr, if_pos hs0]
        have := passed hv hb ha hd he' (by omega) hr
        rw [show q - 1 = (u * 4294967296 + un0) / v by omega, fin, u64w (x := q1 * 4294967296) (by omega) (by omega), u64w (by omega) (by omega)]
      · rw [if_neg hr]
        exact ih k (q - 1) (r + a) he' (by omega) (by omega) (by omega) (by omega) (by omega) (by omega)
    simp only [bits_Div64.l1]
    by_cases h : q ≥ 4294967296
    · rw [if_pos h]
      exact go (by omega)
    · rw [if_neg h]
      have pb : 0 ≤ q * b ∧ q * b ≤ 4294967295 * 4294967295 := ⟨Int.mul_nonneg (by omega) hb.1, Int.mul_le_mul (by omega) (by omega) hb.1 (by omega)⟩
      rw [u64w (x := q * b) (by omega) (by omega), u64w (x := 4294967296 * r) (by omega) (by omega), u64w (x := 4294967296 * r + un0) (by omega) (by omega)]
      by_cases c : q * b > 4294967296 * r + un0
      · rw [decide_eq_true c]
        exact go (ab.1 c)
      · rw [decide_eq_false c]
        simp only [bits_Div64.j4, Bool.false_eq_true, if_false]
        have : ¬ q > (u * 4294967296 + un0) / v := fun z => c (ab.2 z)
        rw [if_pos hs0, show q = (u * 4294967296 + un0) / v by omega, fin, u64w (x := q1 * 4294967296) (by omega) (by omega), u64w (by omega) (by omega)]

/-- The whole quotient out of its two digits, the divisor's highest bit set. -/
theorem div_norm {v s a b u un1 un0 : Int} (hv : v = a * 4294967296 + b) (hb : 0 ≤ b ∧ b < 4294967296) (ha : 2147483648 ≤ a ∧ a < 4294967296) (hu : 0 ≤ u ∧ u < v) (h1 : 0 ≤ un1 ∧ un1 < 4294967296) (h0 : 0 ≤ un0 ∧ un0 < 4294967296) (hs0 : 0 ≤ s) {k : Nat} (hk : 14 ≤ k) :
    bits_Div64.l0 k v s a b u un1 un0 (u / a) (u % a) = some (((u * 4294967296 + un1) * 4294967296 + un0) / v, shr .u64 (((u * 4294967296 + un1) * 4294967296 + un0) % v) s) := by
  obtain ⟨z0, z1, z2, z3⟩ := digit hv hb ha hu h1
  obtain ⟨g1, g2, g3, g4, g5, g6⟩ := first_guess hv hb ha hu h1
  have hv0 : 0 < v := by omega
  have e := Int.emod_add_mul_ediv (u * 4294967296 + un1) v
  have m0 := Int.emod_nonneg (u * 4294967296 + un1) (by omega : v ≠ 0)
  have m1 := Int.emod_lt_of_pos (u * 4294967296 + un1) hv0
  have key : ((u * 4294967296 + un1) * 4294967296 + un0) / v = (u * 4294967296 + un1) / v * 4294967296 + ((u * 4294967296 + un1) % v * 4294967296 + un0) / v ∧ ((u * 4294967296 + un1) * 4294967296 + un0) % v = ((u * 4294967296 + un1) % v * 4294967296 + un0) % v := by
    have w : (u * 4294967296 + un1) * 4294967296 + un0 = ((u * 4294967296 + un1) % v * 4294967296 + un0) + (u * 4294967296 + un1) / v * 4294967296 * v := by
      rw [Int.mul_comm v] at e
      grind
    rw [w, Int.add_mul_ediv_right _ _ (by omega : v ≠ 0), Int.add_mul_emod_self_right]
    exact ⟨by omega, rfl⟩
  rw [key.1, key.2]
  refine div_l0 (K := 8) hv hb ha h1 hu (fun j hj => ?_) 2 k (u / a) (u % a) g3 g4 (by omega) (by omega) g2 g1 (by omega)
  obtain ⟨j, rfl⟩ : ∃ i, j = i + 1 := ⟨j - 1, by omega⟩
  simp only [bits_Div64.j2]
  have r21 : IntKind.u64.wrap (IntKind.u64.wrap (IntKind.u64.wrap (u * 4294967296) + un1) - IntKind.u64.wrap ((u * 4294967296 + un1) / v * v)) = (u * 4294967296 + un1) % v := by
    rw [Int.mul_comm v] at e
    rw [u64m, u64m, u64m, u64m]
    generalize (u * 4294967296 + un1) % v = R at *
    generalize (u * 4294967296 + un1) / v * v = Q at *
    omega
  rw [r21]
  have hu' : 0 ≤ (u * 4294967296 + un1) % v ∧ (u * 4294967296 + un1) % v < v := ⟨m0, m1⟩
  obtain ⟨f1, f2, f3, f4, f5, f6⟩ := first_guess hv hb ha hu' h0
  generalize (u * 4294967296 + un1) % v = U at *
  rw [if_neg (by omega), Int.tdiv_eq_ediv_of_nonneg hu'.1, u64w (x := U / a) (by omega) (by omega)]
  have ua : U / a * a = U - U % a := by omega
  have ua0 : 0 ≤ U / a * a := Int.mul_nonneg f6 (by omega)
  rw [u64w (x := U / a * a) (by omega) (by omega), u64w (x := U - U / a * a) (by omega) (by omega), show U - U / a * a = U % a by omega]
  exact div_l1 hv hb ha h0 hu' ⟨z0, z1⟩ hs0 2 j (U / a) (U % a) f3 f4 (by omega) (by omega) f2 f1 (by omega)

theorem div64_eq {k : Nat} (hk : 14 ≤ k) {hi lo y : Int} (h0 : 0 ≤ hi) (h1 : hi < y) (h2 : y < 18446744073709551616) (l0 : 0 ≤ lo) (l1 : lo < 18446744073709551616) :
    bits_Div64.f k hi lo y = some ((hi * 18446744073709551616 + lo) / y, (hi * 18446744073709551616 + lo) % y) := by
  unfold bits_Div64.f
  rw [if_neg (by omega), if_neg (by omega)]
  by_cases hz : hi = 0
  · rw [if_pos hz]
    subst hz
    rw [Int.tdiv_eq_ediv_of_nonneg l0, Int.tmod_eq_emod_of_nonneg l0, Int.zero_mul, Int.zero_add]
    have := Int.ediv_nonneg l0 (by omega : 0 ≤ y)
    have := Int.ediv_le_self y l0
    rw [u64w (by omega) (by omega)]
  · rw [if_neg hz]
    obtain ⟨Y, rfl⟩ := Int.eq_ofNat_of_zero_le (by omega : 0 ≤ y)
    obtain ⟨c1, c2, c3⟩ := Lib.bitLenAux_bounds 64 Y (by omega) (by omega)
    have c4 := Lib.bitLen_le Y 64 (Nat.le_refl _) (by omega)
    have lz : bits_LeadingZeros64.f (Y : Int) = some (64 - (Lib.bitLen Y : Int)) := by
      unfold bits_LeadingZeros64.f bits_Len64.f
      rw [if_pos (by omega), if_pos (by omega)]
      simp only [Option.bind_some, Int.toNat_natCast]
      rw [w64 (by omega) (by omega)]
    rw [lz]
    simp only [Option.bind_some]
    change 1 ≤ Lib.bitLen Y at c1
    change 2 ^ (Lib.bitLen Y - 1) ≤ Y at c2
    change Y < 2 ^ Lib.bitLen Y at c3
    generalize Lib.bitLen Y = L at c1 c2 c3 c4 ⊢
    obtain ⟨S, hS⟩ : ∃ S : Nat, S + L = 64 := ⟨64 - L, by omega⟩
    rw [u64w (x := 64 - (L : Int)) (by omega) (by omega), show 64 - (L : Int) = (S : Int) by omega, u64w (x := 64 - (S : Int)) (by omega) (by omega), show 64 - (S : Int) = (L : Int) by omega]
    rw [if_pos (by omega), if_pos (by omega)]
    have sh : ∀ x : Int, shl .u64 x (S : Int) = IntKind.u64.wrap (x * 2 ^ S) := fun x => by
      unfold shl
      rw [Int.toNat_natCast, Nat.min_eq_left (show S ≤ IntKind.u64.bits from by show S ≤ 64; omega)]
    have shR : ∀ x : Int, shr .u64 x (L : Int) = x / 2 ^ L := fun x => by
      unfold shr
      rw [Int.toNat_natCast, Nat.min_eq_left (show L ≤ IntKind.u64.bits from by show L ≤ 64; omega)]
    have shS : ∀ x : Int, shr .u64 x (S : Int) = x / 2 ^ S := fun x => by
      unfold shr
      rw [Int.toNat_natCast, Nat.min_eq_left (show S ≤ IntKind.u64.bits from by show S ≤ 64; omega)]
    have tl : (2 : Int) ^ S * 2 ^ L = 18446744073709551616 := by rw [← Int.pow_add, hS]; rfl
    have tp : 0 < (2 : Int) ^ S := Int.pow_pos (by omega)
    have lp : 0 < (2 : Int) ^ L := Int.pow_pos (by omega)
    have e2 : (2 : Int) ^ L = 2 * 2 ^ (L - 1) := by
      rw [show L = (L - 1) + 1 by omega, Int.pow_succ, Nat.add_sub_cancel, Int.mul_comm]
    have c2' : (2 : Int) ^ (L - 1) ≤ (Y : Int) := by have : ((2 ^ (L - 1) : Nat) : Int) ≤ (Y : Int) := by omega
                                                     simpa using this
    have c3' : (Y : Int) < (2 : Int) ^ L := by have : (Y : Int) < ((2 ^ L : Nat) : Int) := by omega
                                               simpa using this
    have v1 : (Y : Int) * 2 ^ S < 18446744073709551616 := by rw [← tl, Int.mul_comm]; exact Int.mul_lt_mul_of_pos_left c3' tp
    have v2 : 9223372036854775808 ≤ (Y : Int) * 2 ^ S := by
      have : (2 : Int) ^ S * 2 ^ (L - 1) = 9223372036854775808 := by rw [e2] at tl; grind
      rw [← this, Int.mul_comm]
      exact Int.mul_le_mul_of_nonneg_right c2' (by omega)
    have hh : hi * 2 ^ S + 2 ^ S ≤ (Y : Int) * 2 ^ S := by
      have := Int.mul_le_mul_of_nonneg_right (show hi + 1 ≤ (Y : Int) by omega) (show (0 : Int) ≤ 2 ^ S by omega)
      rw [Int.add_mul, Int.one_mul] at this
      exact this
    have hh0 : 0 ≤ hi * 2 ^ S := Int.mul_nonneg h0 (by omega)
    have el := Int.emod_add_mul_ediv lo ((2 : Int) ^ L)
    have ml0 := Int.emod_nonneg lo (by omega : (2 : Int) ^ L ≠ 0)
    have ml1 := Int.emod_lt_of_pos lo lp
    have dl0 : 0 ≤ lo / 2 ^ L := Int.ediv_nonneg l0 (by omega)
    have dl1 : lo / 2 ^ L < 2 ^ S := Int.ediv_lt_of_lt_mul lp (by rw [tl]; exact l1)
    have bt : lo % 2 ^ L * 2 ^ S < 18446744073709551616 := by rw [← tl, Int.mul_comm]; exact Int.mul_lt_mul_of_pos_left ml1 tp
    have bt0 : 0 ≤ lo % 2 ^ L * 2 ^ S := Int.mul_nonneg ml0 (by omega)
    have elo : lo * 2 ^ S = lo / 2 ^ L * 18446744073709551616 + lo % 2 ^ L * 2 ^ S := by
      rw [← tl]
      grind
    have wlo : IntKind.u64.wrap (lo * 2 ^ S) = lo % 2 ^ L * 2 ^ S := by rw [elo, u64m]; omega
    have orr : Go.bits .or .u64 (hi * 2 ^ S) (lo / 2 ^ L) = hi * 2 ^ S + lo / 2 ^ L := by
      rw [u64_or _ _ hh0 (by omega) dl0 (by omega)]
      obtain ⟨HI, rfl⟩ := Int.eq_ofNat_of_zero_le h0
      obtain ⟨Q, hQ⟩ := Int.eq_ofNat_of_zero_le dl0
      rw [hQ] at dl1 ⊢
      have q2 : Q < 2 ^ S := by have : (Q : Int) < ((2 ^ S : Nat) : Int) := by simpa using dl1
                                omega
      have z := Nat.two_pow_add_eq_or_of_lt q2 HI
      rw [show ((HI : Int) * 2 ^ S).toNat = 2 ^ S * HI from by rw [show (HI : Int) * 2 ^ S = ((2 ^ S * HI : Nat) : Int) from by rw [Int.mul_comm]; simp]; exact Int.toNat_natCast _, Int.toNat_natCast, ← z]
      rw [Int.mul_comm]
      simp
    rw [sh, sh, sh, shR, u64w (x := (Y : Int) * 2 ^ S) (by omega) (by omega), u64w (x := hi * 2 ^ S) hh0 (by omega), wlo, orr]
    have tot : (hi * 18446744073709551616 + lo) * 2 ^ S = (hi * 2 ^ S + lo / 2 ^ L) * 18446744073709551616 + lo % 2 ^ L * 2 ^ S := by grind
    have qe : (hi * 18446744073709551616 + lo) / (Y : Int) = ((hi * 2 ^ S + lo / 2 ^ L) * 18446744073709551616 + lo % 2 ^ L * 2 ^ S) / ((Y : Int) * 2 ^ S) := by
      rw [← tot, Int.mul_ediv_mul_of_pos_left _ _ tp]
    have re : (hi * 18446744073709551616 + lo) % (Y : Int) = ((hi * 2 ^ S + lo / 2 ^ L) * 18446744073709551616 + lo % 2 ^ L * 2 ^ S) % ((Y : Int) * 2 ^ S) / 2 ^ S := by
      rw [← tot, Int.mul_comm _ ((2 : Int) ^ S), Int.mul_comm (Y : Int) ((2 : Int) ^ S), Int.mul_emod_mul_of_pos _ _ tp, Int.mul_ediv_cancel_left _ (by omega)]
    rw [qe, re, ← shS]
    generalize hu : hi * 2 ^ S + lo / 2 ^ L = U at *
    generalize hw : lo % 2 ^ L * 2 ^ S = Wl at *
    generalize hv : (Y : Int) * 2 ^ S = V at *
    rw [and32 (by omega) (by omega), and32 (by omega) (by omega), if_neg (by omega)]
    have hU : 0 ≤ U ∧ U < V := by omega
    have hA : 2147483648 ≤ V / 4294967296 ∧ V / 4294967296 < 4294967296 := by omega
    have dn := div_norm (v := V) (s := (S : Int)) (a := V / 4294967296) (b := V % 4294967296) (u := U) (un1 := Wl / 4294967296) (un0 := Wl % 4294967296) (by omega) (by omega) hA hU (by omega) (by omega) (by omega) hk
    obtain ⟨g1, g2, g3, g4, g5, g6⟩ := first_guess (v := V) (a := V / 4294967296) (b := V % 4294967296) (u := U) (d := 0) (by omega) (by omega) hA hU (by omega)
    rw [Int.tdiv_eq_ediv_of_nonneg hU.1]
    generalize V / 4294967296 = a at *
    have ua : U / a * a = U - U % a := by omega
    have ua0 : 0 ≤ U / a * a := Int.mul_nonneg g6 (by omega)
    rw [u64w (x := U / a) (by omega) (by omega), u64w (x := U / a * a) (by omega) (by omega), u64w (x := U - U / a * a) (by omega) (by omega), show U - U / a * a = U % a by omega, dn]
    have mm : (U * 4294967296 + Wl / 4294967296) * 4294967296 + Wl % 4294967296 = U * 18446744073709551616 + Wl := by omega
    rw [mm]
end Go.Proofs.Ytocaneaofdbpoaa.Wd
