/- Proved here: WideModes returns true, for any three whole numbers. -/
import Derived.Test.YtdochofgoobicaaMo
import Derived.Test.YtdochofgoobicaaWa
namespace Go.Proofs.Ytdochofgoobicaa.Pure
open Go.RowKit Go.Proofs.Ytdochofgoobicaa.PA Go.Proofs.YtdochofgoobicaaW.PrintWords Go.Proofs.YtdochofgoobicaaW.PrintLast Go.Proofs.YtdochofgoobicaaW.PrintMore
open Go.Proofs.Ytdochofgoobicaa.Wd
theorem md_bad {a b c j : Int} (h0 : 0 ≤ j) (h1 : j < 4) (h : (md a b c j).2 ≠ 0) : (md a b c j).1 = 0 ∧ (0 < j ∨ (md a b c j).2 ≠ 1) := by
  unfold md at h ⊢
  rw [if_neg (by omega)] at h ⊢
  split
  · exact ⟨rfl, Or.inr (by decide)⟩
  · split
    · exact ⟨rfl, Or.inr (by decide)⟩
    · split
      · exact ⟨rfl, Or.inr (by decide)⟩
      · rename_i u v x
        rw [if_neg u, if_neg v, if_neg x] at h
        exact absurd rfl h
theorem md_good {a b c j : Int} (h0 : 0 ≤ j) (h1 : j < 4) (h : (md a b c j).2 = 0) : c ≠ 0 ∧ rq (ab a * ab b) (ab c) j ≤ 9223372036854775807 ∧ (md a b c j).1 = if Neg3 a b c then -rq (ab a * ab b) (ab c) j else rq (ab a * ab b) (ab c) j := by
  unfold md at h ⊢
  rw [if_neg (by omega)] at h ⊢
  split
  · rename_i u
    rw [if_pos u] at h
    exact absurd h (by decide)
  · rename_i u
    rw [if_neg u] at h
    split
    · rename_i v
      rw [if_pos v] at h
      exact absurd h (by decide)
    · rename_i v
      rw [if_neg v] at h
      split
      · rename_i x
        rw [if_pos x] at h
        exact absurd h (by decide)
      · exact ⟨v, by omega, rfl⟩
theorem mx_ab {n r : Int} (s : Bool) (h0 : 0 ≤ r) (h1 : r ≤ 9223372036854775807) (h : n = if s then -r else r) : mx n (wrap64 (-n)) = r := by
  unfold mx wrap64
  cases s <;> simp at h <;> subst h <;> split <;> omega
theorem rq_top {p c j : Int} (hc : 0 < c) : rq p c j ≤ rq p c 1 := by
  have l0 := Int.emod_nonneg p (by omega : c ≠ 0)
  unfold rq
  by_cases m : More j (p / c) (p % c) c <;> by_cases n : More 1 (p / c) (p % c) c
  · rw [if_pos m, if_pos n]; omega
  · rw [if_pos m, if_neg n]; unfold More at m n; omega
  · rw [if_neg m, if_pos n]; omega
  · rw [if_neg m, if_neg n]; omega
theorem rq_up_eq {p c : Int} (hc : 0 < c) : rq p c 1 = p / c ↔ p % c = 0 := by
  have l0 := Int.emod_nonneg p (by omega : c ≠ 0)
  unfold rq
  by_cases n : More 1 (p / c) (p % c) c
  · rw [if_pos n]; unfold More at n; omega
  · rw [if_neg n]; unfold More at n; omega
theorem sg_zero {x y : Int} : (sg x y == 0) = decide (x = y) := by
  unfold sg
  split
  · rw [decide_eq_false (by omega)]; rfl
  · split
    · rename_i h; rw [decide_eq_true h]; rfl
    · rename_i h; rw [decide_eq_false h]; rfl
theorem back {a b c n q : Int} (hq : n = if Neg3 a b c then -q else q) : (a * b = n * c) ↔ (ab a * ab b = q * ab c) := by
  rw [mul_ab a b]
  generalize hp : ab a * ab b = p
  unfold Neg3 at hq
  generalize ha : (decide (a < 0) != decide (b < 0)) = s at *
  unfold ab
  by_cases h : c < 0
  · rw [decide_eq_true h] at hq
    rw [if_pos h]
    have e : -q * c = -(q * c) := Int.neg_mul _ _
    have e' : q * -c = -(q * c) := Int.mul_neg _ _
    cases s <;> simp at hq <;> subst hq <;> simp <;> (try rw [e]) <;> (try rw [e']) <;> omega
  · rw [decide_eq_false h] at hq
    rw [if_neg h]
    have e : -q * c = -(q * c) := Int.neg_mul _ _
    cases s <;> simp at hq <;> subst hq <;> simp <;> (try rw [e]) <;> omega
theorem WideModes_walk (a b c : Int) (w : World) (w0 : (Lit.int .i64 a).wf = true) (w1 : (Lit.int .i64 b).wf = true) (w2 : (Lit.int .i64 c).wf = true) :
    Calls Try.prog 5 #[.int .i64 a, .int .i64 b, .int .i64 c] w fun e w' => e = .returned (.bool true) ∧ Below w.heap.size w w' := by
  obtain ⟨a0, a1⟩ := wf_i64 w0
  obtain ⟨b0, b1⟩ := wf_i64 w1
  obtain ⟨c0, c1⟩ := wf_i64 w2
  refine modes_calls 100 a b c (md a b c) (fun j _ _ => muldiv_eq (by omega) a0 a1 b0 b1 c0 c1) (fun j h0 h1 _ h => md_bad h0 h1 h) (awake_eq (by omega)) (sg (a * b) ((md a b c 0).1 * c)) w ?_
  intro h
  have p0 : 0 ≤ ab a * ab b := Int.mul_nonneg (ab_nn a) (ab_nn b)
  obtain ⟨cz, r0, e0⟩ := md_good (j := 0) (by omega) (by omega) (h 0 (by omega) (by omega))
  obtain ⟨_, r1, e1⟩ := md_good (j := 1) (by omega) (by omega) (h 1 (by omega) (by omega))
  have cp := ab_pos cz
  have L : ∀ j, 0 ≤ j → j < 4 → lAt (md a b c) 4 j = rq (ab a * ab b) (ab c) j := by
    intro j h0 h1
    obtain ⟨_, r, e⟩ := md_good h0 h1 (h j h0 h1)
    unfold lAt
    rw [if_pos h1]
    exact mx_ab _ (rq_nn p0 (by omega)) r e
  have nn := rq_nn (mode := 0) p0 (Int.le_of_lt cp)
  refine ⟨fun j h0 h1 => ?_, ?_, ?_, ?_⟩
  · rw [L j h0 h1, L 0 (by omega) (by omega), L 1 (by omega) (by omega), rq_down]
    exact ⟨(rq_lo _ _ j).1, rq_top cp⟩
  · rw [L 0 (by omega) (by omega), L 1 (by omega) (by omega)]
    have u := rq_lo (ab a * ab b) (ab c) 1
    have d := rq_lo (ab a * ab b) (ab c) 0
    unfold wrap64
    omega
  · have n0 : -9223372036854775808 ≤ (md a b c 0).1 ∧ (md a b c 0).1 ≤ 9223372036854775807 := by
      rw [e0]
      split <;> omega
    exact cmp_eq (by omega) a0 a1 b0 b1 n0.1 n0.2 c0 c1
  · rw [L 0 (by omega) (by omega), L 1 (by omega) (by omega), sg_zero, rq_down]
    rw [rq_down] at e0
    have bk := back e0
    have up := rq_up_eq (p := ab a * ab b) cp
    have dm := Int.emod_add_mul_ediv (ab a * ab b) (ab c)
    rw [Bool.eq_iff_iff, beq_iff_eq, decide_eq_true_eq, bk, Int.mul_comm _ (ab c)]
    generalize hq : ab a * ab b / ab c = q at *
    generalize hp : ab a * ab b = p at *
    constructor
    · intro e
      have := up.1 e.symm
      omega
    · intro e
      exact (up.2 (by omega)).symm
end Go.Proofs.Ytdochofgoobicaa.Pure
