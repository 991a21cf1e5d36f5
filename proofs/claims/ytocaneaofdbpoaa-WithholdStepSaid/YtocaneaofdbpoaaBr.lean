/- The reference's right tables are the program's. -/
import Derived.Test.YtocaneaofdbpoaaBk
import Derived.Test.YtocaneaofdbpoaaPAx11
set_option linter.unusedVariables false
namespace Go.Proofs.Ytocaneaofdbpoaa.Wd
open Go.RowKit Go.Proofs.Ytocaneaofdbpoaa.PA Go.Proofs.YtocaneaofdbpoaaW.PrintWords Go.Proofs.YtocaneaofdbpoaaW.PrintMore
def Ok' (l : List S58) (n : Nat) : Prop := (0 < n → (row l (n - 1)).f0 < (row l n).f0) ∧ 0 ≤ (row l n).f1 ∧ (row l n).f1 ≤ 10000
open Classical in
theorem refright_loop {l : List S58} (hl : l.length ≤ 1000000) (d : Nat) : ∀ (k n : Nat), n + d = l.length → d + 1 ≤ k → paymasterref05_Right.l0 k l (n : Int) = some (decide (∀ m, n ≤ m → m < l.length → Ok' l m)) := by
  induction d with
  | zero =>
    intro k n hn hk
    obtain ⟨k, rfl⟩ : ∃ j, k = j + 1 := ⟨k - 1, by omega⟩
    simp only [paymasterref05_Right.l0]
    rw [if_neg (by omega), decide_eq_true (p := ∀ m, n ≤ m → m < l.length → Ok' l m) (fun m h h' => absurd h' (by omega))]
  | succ d ih =>
    intro k n hn hk
    obtain ⟨k, rfl⟩ : ∃ j, k = j + 1 := ⟨k - 1, by omega⟩
    have := ih k (n + 1) (by omega) (by omega)
    rw [show ((n + 1 : Nat) : Int) = (n : Int) + 1 by omega] at this
    have bad : ¬ Ok' l n → some false = some (decide (∀ m, n ≤ m → m < l.length → Ok' l m)) := fun h => by
      rw [decide_eq_false (fun z => h (z n (Nat.le_refl _) (by omega)))]
    have good : Ok' l n → paymasterref05_Right.l0 k l ((n : Int) + 1) = some (decide (∀ m, n ≤ m → m < l.length → Ok' l m)) := fun h => by
      rw [this]
      congr 1
      rw [Bool.eq_iff_iff, decide_eq_true_eq, decide_eq_true_eq]
      constructor
      · intro z m h1 h2
        by_cases y : m = n
        · rw [y]; exact h
        · exact z m (by omega) h2
      · intro z m h1 h2
        exact z m (by omega) h2
    simp only [paymasterref05_Right.l0]
    rw [if_pos (by omega), if_pos (by omega), row_rd, w64 (x := (n : Int) + 1) (by omega) (by omega)]
    by_cases h1 : (row l n).f1 < 0
    · rw [if_pos h1]
      exact bad (fun z => by have := z.2.1; omega)
    rw [if_neg h1]
    by_cases h2 : (row l n).f1 > 10000
    · rw [if_pos h2]
      exact bad (fun z => by have := z.2.2; omega)
    rw [if_neg h2]
    cases n with
    | zero =>
      rw [if_neg (by omega)]
      exact good ⟨fun z => absurd z (by omega), by omega, by omega⟩
    | succ n =>
      rw [if_pos (by omega), w64 (by omega) (by omega), show ((n + 1 : Nat) : Int) - 1 = (n : Int) by omega, if_pos (by omega), if_pos (by omega), row_rd]
      by_cases h3 : (row l (n + 1)).f0 ≤ (row l n).f0
      · rw [if_pos h3]
        exact bad (fun z => by have := z.1 (by omega); rw [Nat.add_sub_cancel] at this; omega)
      · rw [if_neg h3]
        exact good ⟨fun _ => by rw [Nat.add_sub_cancel]; omega, by omega, by omega⟩
theorem rt_iff (l : List S58) : RT l ↔ (1 ≤ l.length ∧ l.length ≤ 12 ∧ (row l 0).f0 = 0 ∧ ∀ m, 0 ≤ m → m < l.length → Ok' l m) := by
  unfold RT Ok Ok'
  constructor
  · intro h
    exact ⟨h.2.1, h.2.2, (h.1 0 (by omega)).1 rfl, fun m _ hm => (h.1 m hm).2⟩
  · intro h
    exact ⟨fun n hn => ⟨fun e => by rw [e]; exact h.2.2.1, h.2.2.2 n (by omega) hn⟩, h.1, h.2.1⟩
open Classical in
theorem refright_eq {k : Nat} (hk : 20 ≤ k) (l : List S58) : paymasterref05_Right.f k l = some (decide (RT l)) := by
  obtain ⟨k, rfl⟩ : ∃ j, k = j + 1 := ⟨k - 1, by omega⟩
  have bad : ¬ RT l → some false = some (decide (RT l)) := fun h => by rw [decide_eq_false h]
  unfold paymasterref05_Right.f
  by_cases h0 : (l.length : Int) = 0
  · rw [if_pos h0]
    simp only [paymasterref05_Right.j0, if_true]
    exact bad (fun z => by have := z.2.1; omega)
  rw [if_neg h0]
  by_cases h1 : (l.length : Int) > 12
  · rw [if_pos h1]
    simp only [paymasterref05_Right.j0, if_true]
    exact bad (fun z => by have := z.2.2; omega)
  rw [if_neg h1, if_pos (by omega), show rd_T58 l 0 = row l 0 from row_rd l 0]
  by_cases h2 : (row l 0).f0 = 0
  · simp only [paymasterref05_Right.j0]
    rw [if_neg (by simp [h2])]
    have := refright_loop (l := l) (by omega) l.length k 0 (by omega) (by omega)
    rw [show ((0 : Nat) : Int) = 0 from rfl] at this
    rw [this]
    congr 1
    rw [Bool.eq_iff_iff, decide_eq_true_eq, decide_eq_true_eq, rt_iff]
    constructor
    · intro z
      exact ⟨by omega, by omega, h2, z⟩
    · intro z
      exact z.2.2.2
  · simp only [paymasterref05_Right.j0]
    rw [if_pos (by simp [h2])]
    exact bad (fun z => h2 ((z.1 0 (by omega)).1 rfl))
theorem refright_yes {k : Nat} (hk : 20 ≤ k) {l : List S58} (h : RT l) : paymasterref05_Right.f k l = some true := by
  classical
  have := refright_eq hk l
  rw [this]
  congr 1
  simpa using h
theorem refright_no {k : Nat} (hk : 20 ≤ k) {l : List S58} (h : ¬ RT l) : paymasterref05_Right.f k l = some false := by
  classical
  have := refright_eq hk l
  rw [this]
  congr 1
  simpa using h
end Go.Proofs.Ytocaneaofdbpoaa.Wd
