/- Proved here: WideUnits as the print tells it, over numbers alone, for any three whole numbers and a byte. -/
import Derived.Test.YtdochofgoobicaaPAx8
import Derived.Test.YtdochofgoobicaaWa
namespace Go.Proofs.Ytdochofgoobicaa.Pure
open Go.RowKit Go.Proofs.Ytdochofgoobicaa.PA Go.Proofs.YtdochofgoobicaaW.PrintWords Go.Proofs.YtdochofgoobicaaW.PrintLast
open Go.Proofs.Ytdochofgoobicaa.Wd

theorem neg3_a {a b c : Int} (h : a ≠ 0) : Neg3 (-a) b c = !Neg3 a b c := by
  unfold Neg3
  by_cases x : a < 0
  · rw [decide_eq_true x, decide_eq_false (by omega)]
    cases decide (b < 0) <;> cases decide (c < 0) <;> rfl
  · rw [decide_eq_false x, decide_eq_true (by omega)]
    cases decide (b < 0) <;> cases decide (c < 0) <;> rfl
theorem neg3_bc {a b c : Int} (h : b ≠ 0) (g : c ≠ 0) : Neg3 a (-b) (-c) = Neg3 a b c := by
  unfold Neg3
  have e : ∀ x : Int, x ≠ 0 → decide (-x < 0) = !decide (x < 0) := fun x hx => by
    by_cases z : x < 0
    · rw [decide_eq_true z, decide_eq_false (by omega)]; rfl
    · rw [decide_eq_false z, decide_eq_true (by omega)]; rfl
  rw [e b h, e c g]
  cases decide (a < 0) <;> cases decide (b < 0) <;> cases decide (c < 0) <;> rfl
theorem rq_nought {c mode : Int} (hc : 0 < c) : rq 0 c mode = 0 := by
  have := rq_self (p := 0) (c := c) (mode := mode) hc
  rwa [Int.zero_mul] at this
/-- A sign turned turns the answer's sign. -/
theorem md_turn {a b c m : Int} (hm : 0 ≤ m) (hm' : m ≤ 3) (ha : a ≠ -9223372036854775808) (ha' : a ≠ 9223372036854775808) (hb : b ≠ -9223372036854775808) (hc : c ≠ -9223372036854775808) :
    (md (-a) b c m).1 = -(md a b c m).1 ∧ (md (-a) b c m).2 = (md a b c m).2 := by
  by_cases z : c = 0
  · subst z
    rw [md_zero hm hm' ha hb, md_zero hm hm' (by omega) hb]
    simp
  rw [md_at hm hm' ha hb hc z, md_at hm hm' (by omega) hb hc z, ab_neg]
  have cp := ab_pos z
  by_cases a0 : a = 0
  · subst a0
    rw [show ab 0 = 0 from rfl, Int.zero_mul, rq_nought cp]
    simp
  rw [neg3_a a0]
  generalize rq (ab a * ab b) (ab c) m = q
  split
  · simp
  · cases Neg3 a b c <;> simp
theorem md_turn2 {a b c m : Int} (hm : 0 ≤ m) (hm' : m ≤ 3) (ha : a ≠ -9223372036854775808) (hb : b ≠ -9223372036854775808) (hb' : b ≠ 9223372036854775808) (hc : c ≠ -9223372036854775808) (hc' : c ≠ 9223372036854775808) :
    md a (-b) (-c) m = md a b c m := by
  by_cases z : c = 0
  · subst z
    rw [md_zero hm hm' ha hb, show (-0 : Int) = 0 from rfl, md_zero hm hm' ha (by omega)]
  rw [md_at hm hm' ha hb hc z, md_at hm hm' ha (by omega) (by omega) (by omega), ab_neg, ab_neg]
  have cp := ab_pos z
  by_cases b0 : b = 0
  · subst b0
    rw [show ab 0 = 0 from rfl, Int.mul_zero, rq_nought cp]
    simp
  rw [neg3_bc b0 z]
theorem WideUnits : paymasterlaw02_WideUnits.Pure := by
  intro a b c mode w0 w1 w2 w3
  have A := wf_i64 w0
  have B := wf_i64 w1
  have C := wf_i64 w2
  have M := wf_u8 w3
  obtain ⟨k, hk⟩ : ∃ k : Nat, 60 ≤ k := ⟨60, Nat.le_refl _⟩
  refine ⟨k, ?_⟩
  obtain ⟨k, rfl⟩ : ∃ j, k = j + 1 := ⟨k - 1, by omega⟩
  unfold paymasterlaw02_WideUnits.f
  rw [Int.tmod_eq_emod_of_nonneg M.1, w64 (x := mode % 4) (by omega) (by omega)]
  have m0 : 0 ≤ mode % 4 := by omega
  have m1 : mode % 4 ≤ 3 := by omega
  generalize mode % 4 = m at m0 m1 ⊢
  have yes : paymasterlaw02_WideUnits.j0 (k + 1) a b c m true = some true := by
    simp only [paymasterlaw02_WideUnits.j0, if_true]
    rw [awake_eq (by omega)]
    rfl
  by_cases ha : a = -9223372036854775808
  · rw [if_pos ha, yes]
  rw [if_neg ha]
  by_cases hb : b = -9223372036854775808
  · rw [if_pos hb, yes]
  rw [if_neg hb]
  by_cases hc : c = -9223372036854775808
  · rw [beq_iff_eq.2 hc, yes]
  rw [beq_eq_false_iff_ne.2 hc]
  simp only [paymasterlaw02_WideUnits.j0, Bool.false_eq_true, if_false]
  rw [w64 (x := -a) (by omega) (by omega), w64 (x := -b) (by omega) (by omega), w64 (x := -c) (by omega) (by omega)]
  rw [muldiv_eq (by omega) A.1 A.2 (by omega) (by omega) (by omega) (by omega), muldiv_eq (by omega) A.1 A.2 A.1 A.2 A.1 A.2, muldiv_eq (by omega) A.1 A.2 B.1 B.2 C.1 C.2, muldiv_eq (by omega) (by omega) (by omega) B.1 B.2 C.1 C.2, muldiv_eq (by omega) A.1 A.2 (by omega) (by omega) (by omega) (by omega)]
  simp only [Option.bind_some]
  have al := ab_le (a := a) (by omega) A.2
  have u1 : md a 1 1 m = (a, 0) := by
    rw [md_at m0 m1 ha (by omega) (by omega) (by omega), show ab 1 = 1 from rfl, Int.mul_one, rq_one, if_neg (by omega)]
    unfold Neg3 ab
    by_cases x : a < 0
    · simp [x]
    · simp [x]
  have t1 := md_turn m0 m1 ha (by omega) hb hc
  have t2 := md_turn2 m0 m1 ha hb (by omega) hc (by omega)
  have nb : -9223372036854775807 ≤ (md a b c m).1 ∧ (md a b c m).1 ≤ 9223372036854775807 := by
    by_cases z : c = 0
    · subst z
      rw [md_zero m0 m1 ha hb]
      simp
    · rw [md_at m0 m1 ha hb hc z]
      have n := rq_nn (p := ab a * ab b) (c := ab c) (mode := m) (Int.mul_nonneg (ab_nn a) (ab_nn b)) (ab_nn c)
      split
      · simp
      · split <;> simp only <;> omega
  rw [u1, t2, t1.1, t1.2, w64 (x := -(md a b c m).1) (by omega) (by omega)]
  simp only [if_true]
  rw [awake_eq (by omega)]
  simp only [Option.bind_some]
  by_cases z : a = 0
  · subst z
    rw [md_zero m0 m1 ha ha]
    simp
  · rw [if_neg z]
    have u2 : md a a a m = (a, 0) := by
      rw [md_at m0 m1 ha ha ha z, rq_self (ab_pos z), if_neg (by omega)]
      unfold Neg3 ab
      by_cases x : a < 0
      · simp [x]
      · simp [x]
    rw [u2]
    simp
end Go.Proofs.Ytdochofgoobicaa.Pure
