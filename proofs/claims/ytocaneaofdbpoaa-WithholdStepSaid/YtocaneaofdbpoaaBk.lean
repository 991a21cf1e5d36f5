/- Plain laws of package brackets: which tables are right, the parts of an amount, the tax and the rate. -/
import Derived.Test.YtocaneaofdbpoaaPAx4
import Derived.Test.YtocaneaofdbpoaaWm
set_option linter.unusedVariables false
namespace Go.Proofs.Ytocaneaofdbpoaa.Wd
open Go.RowKit Go.Proofs.Ytocaneaofdbpoaa.PA Go.Proofs.YtocaneaofdbpoaaW.PrintWords Go.Proofs.YtocaneaofdbpoaaW.PrintMore

theorem mn_min (a b : Int) : mn a b = min a b := by unfold mn; split <;> omega
theorem mx_max (a b : Int) : mx a b = max a b := by unfold mx; split <;> omega
/-- The n-th row. -/
def row (l : List S58) (n : Nat) : S58 := l.getD n z58
theorem row_rd (l : List S58) (n : Nat) : rd_T58 l (n : Int) = row l n := by unfold rd_T58 row; rw [Int.toNat_natCast]
theorem row_rd1 (l : List S58) (n : Nat) : rd_T58 l ((n : Int) + 1) = row l (n + 1) := by rw [show (n : Int) + 1 = ((n + 1 : Nat) : Int) by omega, row_rd]
def Ok (l : List S58) (n : Nat) : Prop := (n = 0 → (row l n).f0 = 0) ∧ (0 < n → (row l (n - 1)).f0 < (row l n).f0) ∧ 0 ≤ (row l n).f1 ∧ (row l n).f1 ≤ 10000
instance (l : List S58) (n : Nat) : Decidable (Ok l n) := inferInstanceAs (Decidable ((n = 0 → (row l n).f0 = 0) ∧ (0 < n → (row l (n - 1)).f0 < (row l n).f0) ∧ 0 ≤ (row l n).f1 ∧ (row l n).f1 ≤ 10000))
/-- A right table. -/
def RT (l : List S58) : Prop := (∀ n, n < l.length → Ok l n) ∧ 1 ≤ l.length ∧ l.length ≤ 12

theorem right_step {k : Nat} {l : List S58} {n : Nat} (hn : n < l.length) (hl : l.length ≤ 1000000) : brackets_Right.l0 (k + 1) l l (l.length : Int) (n : Int) = if Ok l n then brackets_Right.l0 k l l (l.length : Int) ((n : Int) + 1) else some false := by
  simp only [brackets_Right.l0]
  rw [if_pos (by omega), if_pos (by omega), if_pos (by omega), row_rd, w64 (x := (n : Int) + 1) (by omega) (by omega)]
  have rr : ∀ r : Int, ((rate_Right.f r).bind fun t => (if t = true then brackets_Right.l0 k l l (l.length : Int) ((n : Int) + 1) else some false)) = if 0 ≤ r ∧ r ≤ 10000 then brackets_Right.l0 k l l (l.length : Int) ((n : Int) + 1) else some false := fun r => by
    unfold rate_Right.f
    by_cases h : r ≥ 0
    · rw [if_pos h, Option.bind_some]
      by_cases g : r ≤ 10000
      · rw [if_pos (by simpa using g), if_pos ⟨h, g⟩]
      · rw [if_neg (by simpa using g), if_neg (by omega)]
    · rw [if_neg h, Option.bind_some, if_neg (by simp), if_neg (by omega)]
  rw [rr]
  cases n with
  | zero =>
    rw [if_pos (by omega)]
    by_cases h : (row l 0).f0 = 0
    · rw [if_pos h, if_neg (by omega)]
      by_cases g : 0 ≤ (row l 0).f1 ∧ (row l 0).f1 ≤ 10000
      · rw [if_pos g, if_pos (show Ok l 0 from ⟨fun _ => h, fun z => absurd z (by omega), g⟩)]
      · rw [if_neg g, if_neg (fun z : Ok l _ => g z.2.2)]
    · rw [if_neg h, if_neg (fun z : Ok l 0 => h (z.1 rfl))]
  | succ n =>
    rw [if_neg (by omega), if_pos (by omega), w64 (by omega) (by omega), show ((n + 1 : Nat) : Int) - 1 = (n : Int) by omega, if_pos (by omega), if_pos (by omega), row_rd]
    by_cases h : (row l (n + 1)).f0 ≤ (row l n).f0
    · rw [if_pos h, if_neg (fun z : Ok l (n + 1) => by have := z.2.1 (by omega); rw [Nat.add_sub_cancel] at this; omega)]
    · rw [if_neg h]
      by_cases g : 0 ≤ (row l (n + 1)).f1 ∧ (row l (n + 1)).f1 ≤ 10000
      · rw [if_pos g, if_pos (show Ok l (n + 1) from ⟨fun z => absurd z (by omega), fun _ => by rw [Nat.add_sub_cancel]; omega, g⟩)]
      · rw [if_neg g, if_neg (fun z : Ok l _ => g z.2.2)]
open Classical in
theorem right_loop {l : List S58} (hl : l.length ≤ 1000000) (d : Nat) : ∀ (k n : Nat), n + d = l.length → d + 1 ≤ k → brackets_Right.l0 k l l (l.length : Int) (n : Int) = some (decide (∀ m, n ≤ m → m < l.length → Ok l m) && decide (1 ≤ l.length ∧ l.length ≤ 12)) := by
  induction d with
  | zero =>
    intro k n hn hk
    obtain ⟨k, rfl⟩ : ∃ j, k = j + 1 := ⟨k - 1, by omega⟩
    simp only [brackets_Right.l0]
    rw [if_neg (by omega), decide_eq_true (p := ∀ m, n ≤ m → m < l.length → Ok l m) (fun m h h' => absurd h' (by omega)), Bool.true_and]
    by_cases h : (l.length : Int) ≥ 1
    · rw [if_pos h]
      congr 1
      rw [Bool.eq_iff_iff, decide_eq_true_eq, decide_eq_true_eq]
      omega
    · rw [if_neg h, decide_eq_false (by omega)]
  | succ d ih =>
    intro k n hn hk
    obtain ⟨k, rfl⟩ : ∃ j, k = j + 1 := ⟨k - 1, by omega⟩
    rw [right_step (by omega) hl]
    have := ih k (n + 1) (by omega) (by omega)
    rw [show ((n + 1 : Nat) : Int) = (n : Int) + 1 by omega] at this
    by_cases h : Ok l n
    · rw [if_pos h, this]
      congr 2
      rw [Bool.eq_iff_iff, decide_eq_true_eq, decide_eq_true_eq]
      constructor
      · intro z m h1 h2
        by_cases y : m = n
        · rw [y]; exact h
        · exact z m (by omega) h2
      · intro z m h1 h2
        exact z m (by omega) h2
    · rw [if_neg h, decide_eq_false (p := ∀ m, n ≤ m → m < l.length → Ok l m) (fun z => h (z n (Nat.le_refl _) (by omega))), Bool.false_and]
open Classical in
theorem right_eq {k : Nat} {l : List S58} (hl : l.length ≤ 1000000) (hk : l.length + 1 ≤ k) : brackets_Right.f k l = some (decide (RT l)) := by
  unfold brackets_Right.f
  have := right_loop hl l.length k 0 (by omega) hk
  rw [show ((0 : Nat) : Int) = 0 from rfl] at this
  rw [this]
  congr 1
  rw [Bool.eq_iff_iff, Bool.and_eq_true, decide_eq_true_eq, decide_eq_true_eq, decide_eq_true_eq]
  unfold RT
  constructor
  · intro h
    exact ⟨fun n hn => h.1 n (by omega) hn, h.2⟩
  · intro h
    exact ⟨fun m _ hm => h.1 m hm, h.2⟩
open Classical in
theorem right_yes {k : Nat} {l : List S58} (h : RT l) (hk : 14 ≤ k) : brackets_Right.f k l = some true := by
  rw [right_eq (by have := h.2.2; omega) (by have := h.2.2; omega), decide_eq_true h]
open Classical in
theorem right_no {k : Nat} {l : List S58} (h : ¬ RT l) (hl : l.length ≤ 1000000) (hk : l.length + 1 ≤ k) : brackets_Right.f k l = some false := by
  rw [right_eq hl hk, decide_eq_false h]
theorem check_no {k : Nat} {l : List S58} (h : ¬ RT l) (hl : l.length ≤ 1000000) (hk : l.length + 1 ≤ k) (a : Int) : brackets_check.f k l a = some 1 := by
  unfold brackets_check.f
  rw [right_no h hl hk, Option.bind_some, if_neg (by simp)]
theorem check_yes {k : Nat} {l : List S58} (h : RT l) (hk : 14 ≤ k) (a : Int) : brackets_check.f k l a = some (if -9223372036854775807 ≤ a then 0 else 3) := by
  unfold brackets_check.f
  rw [right_yes h hk, Option.bind_some, if_pos rfl]
  unfold money_Right.f
  rw [Option.bind_some]
  by_cases g : -9223372036854775807 ≤ a
  · rw [if_pos (by simpa using g), if_pos g]
  · rw [if_neg (by simpa using g), if_neg g]

/-- What lies in the n-th row, of amount a. -/
def part (l : List S58) (a : Int) (n : Nat) : Int := if a ≤ (row l n).f0 then 0 else if n + 1 < l.length then min a (row l (n + 1)).f0 - (row l n).f0 else a - (row l n).f0
/-- What lies in the first n rows. -/
def cov (l : List S58) (a : Int) (n : Nat) : Int := if n < l.length then min (max a 0) (row l n).f0 else max a 0
theorem above_nn {l : List S58} (h : RT l) : ∀ n, n < l.length → 0 ≤ (row l n).f0
  | 0, hn => by have := (h.1 0 hn).1 rfl; omega
  | n + 1, hn => by
    have := above_nn h n (by omega)
    have := (h.1 (n + 1) hn).2.1 (by omega)
    rw [Nat.add_sub_cancel] at this
    omega
theorem above_lt {l : List S58} (h : RT l) {n : Nat} (hn : n + 1 < l.length) : (row l n).f0 < (row l (n + 1)).f0 := by
  have := (h.1 (n + 1) hn).2.1 (by omega)
  rwa [Nat.add_sub_cancel] at this
theorem part_bd {l : List S58} (h : RT l) {n : Nat} (hn : n < l.length) (a : Int) : 0 ≤ part l a n ∧ part l a n ≤ max a 0 := by
  have z := above_nn h n hn
  unfold part
  split
  · omega
  · split
    · rename_i g
      have := above_lt h g
      omega
    · omega
theorem part_cov {l : List S58} (h : RT l) {n : Nat} (hn : n < l.length) (a : Int) : cov l a (n + 1) = cov l a n + part l a n := by
  have z := above_nn h n hn
  unfold cov part
  rw [if_pos hn]
  by_cases g : n + 1 < l.length
  · have := above_lt h g
    rw [if_pos g, if_pos g]
    split <;> omega
  · rw [if_neg g, if_neg g]
    split <;> omega
theorem cov_zero {l : List S58} (h : RT l) (a : Int) : cov l a 0 = 0 := by
  have := (h.1 0 (by have := h.2.1; omega)).1 rfl
  unfold cov
  rw [if_pos (by have := h.2.1; omega)]
  omega
theorem part_mono {l : List S58} (h : RT l) {n : Nat} (hn : n < l.length) {a b : Int} (hab : a ≤ b) : part l a n ≤ part l b n := by
  unfold part
  by_cases g : n + 1 < l.length
  · have := above_lt h g
    rw [if_pos g, if_pos g]
    split <;> split <;> omega
  · rw [if_neg g, if_neg g]
    split <;> split <;> omega

theorem parts_loop {l : List S58} (h : RT l) {a : Int} (a0 : -9223372036854775807 ≤ a) (a1 : a ≤ 9223372036854775807) (d : Nat) : ∀ (k : Nat) (out : List Int) (n : Nat), n + d = l.length → d < k → out = (List.range n).map (part l a) →
    brackets_Parts.l0 k l a out l (l.length : Int) (n : Int) = some ((List.range l.length).map (part l a), 0) := by
  induction d with
  | zero =>
    intro k out n hn hk ho
    obtain ⟨k, rfl⟩ : ∃ j, k = j + 1 := ⟨k - 1, by omega⟩
    simp only [brackets_Parts.l0]
    rw [if_neg (by omega), ho, show n = l.length by omega]
  | succ d ih =>
    intro k out n hn hk ho
    obtain ⟨k, rfl⟩ : ∃ j, k = j + 1 := ⟨k - 1, by omega⟩
    have l12 := h.2.2
    have z := above_nn h n (by omega)
    have ol : out.length = n := by rw [ho]; simp
    have step : ∀ p : Int, p = part l a n → brackets_Parts.l0 k l a (out ++ [p]) l (l.length : Int) ((n : Int) + 1) = some ((List.range l.length).map (part l a), 0) := fun p hp => by
      have := ih k (out ++ [p]) (n + 1) (by omega) (by omega) (by rw [ho, hp, List.range_succ, List.map_append]; rfl)
      rwa [show ((n + 1 : Nat) : Int) = (n : Int) + 1 by omega] at this
    simp only [brackets_Parts.l0]
    rw [if_pos (by omega), if_pos (by omega), if_pos (by omega), w64 (x := (n : Int) + 1) (by omega) (by omega), row_rd, row_rd1]
    have ll : out.length < 17592186044416 := by omega
    by_cases g : (n : Int) + 1 < (l.length : Int)
    · have up := above_lt h (n := n) (by omega)
      rw [if_pos g, if_pos (by omega)]
      by_cases c : a ≤ (row l n).f0
      · rw [if_pos c, if_pos ll]
        exact step 0 (by unfold part; rw [if_pos c])
      · rw [if_neg c, if_pos ll, mn_min, w64 (by omega) (by omega)]
        exact step _ (by unfold part; rw [if_neg c, if_pos (by omega)])
    · rw [if_neg g]
      by_cases c : a ≤ (row l n).f0
      · rw [if_pos c, if_pos ll]
        exact step 0 (by unfold part; rw [if_pos c])
      · rw [if_neg c, if_pos ll, w64 (by omega) (by omega)]
        exact step _ (by unfold part; rw [if_neg c, if_neg (by omega)])
theorem parts_yes {k : Nat} {l : List S58} (h : RT l) (hk : 20 ≤ k) {a : Int} (a0 : -9223372036854775807 ≤ a) (a1 : a ≤ 9223372036854775807) : brackets_Parts.f k l a = some ((List.range l.length).map (part l a), 0) := by
  unfold brackets_Parts.f
  rw [check_yes h (by omega), Option.bind_some, if_pos a0, if_pos rfl]
  exact parts_loop h a0 a1 l.length k [] 0 (by omega) (by have := h.2.2; omega) (by simp)
theorem parts_no {k : Nat} {l : List S58} (h : ¬ RT l) (hl : l.length ≤ 1000000) (hk : l.length + 1 ≤ k) (a : Int) : brackets_Parts.f k l a = some ([], 1) := by
  unfold brackets_Parts.f
  rw [check_no h hl hk, Option.bind_some, if_neg (by omega)]
theorem parts_over {k : Nat} {l : List S58} (h : RT l) (hk : 20 ≤ k) {a : Int} (a0 : a < -9223372036854775807) : brackets_Parts.f k l a = some ([], 3) := by
  unfold brackets_Parts.f
  rw [check_yes h (by omega), Option.bind_some, if_neg (by omega), if_neg (by omega)]

theorem of_down {k : Nat} (hk : 24 ≤ k) {p r : Int} (p0 : 0 ≤ p) (p1 : p ≤ 9223372036854775807) (r0 : 0 ≤ r) (r1 : r ≤ 10000) : rate_Of.f k p r 0 = some (p * r / 10000, 0) ∧ 0 ≤ p * r / 10000 ∧ p * r / 10000 ≤ p := by
  have m0 : 0 ≤ p * r := Int.mul_nonneg p0 r0
  have m1 := Int.mul_le_mul_of_nonneg_left r1 p0
  have q0 : 0 ≤ p * r / 10000 := by omega
  have q1 : p * r / 10000 ≤ p := by omega
  refine ⟨?_, q0, q1⟩
  unfold rate_Of.f rate_Right.f
  rw [if_pos r0, Option.bind_some, if_pos (by simpa using r1), muldiv_eq (by omega) (by omega) (by omega) (by omega) (by omega) (by omega) (by omega), Option.bind_some, md_at (by omega) (by omega) (by omega) (by omega) (by omega) (by omega)]
  have abn : ∀ t : Int, 0 ≤ t → ab t = t := fun t h => by unfold ab; rw [if_neg (by omega)]
  have ng : Neg3 p r 10000 = false := by unfold Neg3; rw [decide_eq_false (by omega), decide_eq_false (by omega), decide_eq_false (by omega)]; rfl
  rw [abn p p0, abn r r0, show ab 10000 = 10000 from rfl, rq_down, if_neg (by omega), ng]
  rfl
/-- The tax of the first n rows. -/
def tx (l : List S58) (a : Int) : Nat → Int
  | 0 => 0
  | n + 1 => tx l a n + part l a n * (row l n).f1 / 10000
theorem tx_bd {l : List S58} (h : RT l) (a : Int) : ∀ n, n ≤ l.length → 0 ≤ tx l a n ∧ tx l a n ≤ cov l a n
  | 0, _ => by rw [cov_zero h]; simp [tx]
  | n + 1, hn => by
    have ih := tx_bd h a n (by omega)
    have p := part_bd h (n := n) (by omega) a
    have c := part_cov h (n := n) (by omega) a
    have o := (h.1 n (by omega)).2.2
    have m0 : 0 ≤ part l a n * (row l n).f1 := Int.mul_nonneg p.1 o.1
    have m1 := Int.mul_le_mul_of_nonneg_left o.2 p.1
    simp only [tx]
    omega
theorem cov_le {l : List S58} (a : Int) (n : Nat) : cov l a n ≤ max a 0 := by unfold cov; split <;> omega
theorem cov_top {l : List S58} (a : Int) : cov l a l.length = max a 0 := by unfold cov; rw [if_neg (by omega)]
/-- With more, the tax is not less, nor by more than that. -/
theorem tx_more {l : List S58} (h : RT l) {a b : Int} (hab : a ≤ b) : ∀ n, n ≤ l.length → tx l a n ≤ tx l b n ∧ tx l b n - tx l a n ≤ cov l b n - cov l a n
  | 0, _ => by rw [cov_zero h, cov_zero h]; simp [tx]
  | n + 1, hn => by
    have ih := tx_more h hab n (by omega)
    have p := part_bd h (n := n) (by omega) a
    have pm := part_mono h (n := n) (by omega) hab
    have c := part_cov h (n := n) (by omega) a
    have c' := part_cov h (n := n) (by omega) b
    have o := (h.1 n (by omega)).2.2
    simp only [tx]
    generalize part l a n = x at *
    generalize part l b n = y at *
    generalize (row l n).f1 = r at *
    have m1 := Int.mul_le_mul_of_nonneg_right pm o.1
    have m2 := Int.mul_le_mul_of_nonneg_left o.2 (show 0 ≤ y - x by omega)
    rw [Int.sub_mul] at m2
    omega
theorem map_at (f : Nat → Int) {n m : Nat} (h : n < m) : rd ((List.range m).map f) (n : Int) = f n := by
  unfold rd
  rw [Int.toNat_natCast, List.getD_eq_getElem?_getD, List.getElem?_map, List.getElem?_range h]
  rfl
theorem tax_loop {l : List S58} (h : RT l) {a : Int} (a1 : a ≤ 9223372036854775807) (d : Nat) : ∀ (k n : Nat), n + d = l.length → d + 26 ≤ k →
    brackets_Tax.l0 k l (tx l a n) ((List.range l.length).map (part l a)) (l.length : Int) (n : Int) = some (tx l a l.length, 0) := by
  induction d with
  | zero =>
    intro k n hn hk
    obtain ⟨k, rfl⟩ : ∃ j, k = j + 1 := ⟨k - 1, by omega⟩
    simp only [brackets_Tax.l0]
    rw [if_neg (by omega), show n = l.length by omega]
  | succ d ih =>
    intro k n hn hk
    obtain ⟨k, rfl⟩ : ∃ j, k = j + 1 := ⟨k - 1, by omega⟩
    have l12 := h.2.2
    have p := part_bd h (n := n) (by omega) a
    have o := (h.1 n (by omega)).2.2
    have t := tx_bd h a (n + 1) (by omega)
    have t' := tx_bd h a n (by omega)
    have cl := cov_le (l := l) a (n + 1)
    obtain ⟨e, e0, e1⟩ := of_down (k := k) (by omega) p.1 (by omega) o.1 o.2
    simp only [brackets_Tax.l0]
    rw [if_pos (by omega), if_pos (by omega), if_pos (by simp; omega), if_pos (by omega), map_at _ (by omega), row_rd, e, Option.bind_some]
    simp only [tx] at t
    rw [w64 (by omega) (by omega), w64 (x := (n : Int) + 1) (by omega) (by omega)]
    have := ih k (n + 1) (by omega) (by omega)
    rwa [show ((n + 1 : Nat) : Int) = (n : Int) + 1 by omega] at this
theorem tax_yes {k : Nat} {l : List S58} (h : RT l) (hk : 50 ≤ k) {a : Int} (a0 : -9223372036854775807 ≤ a) (a1 : a ≤ 9223372036854775807) : brackets_Tax.f k l a = some (tx l a l.length, 0) := by
  unfold brackets_Tax.f
  rw [parts_yes h (by omega) a0 a1, Option.bind_some, if_pos rfl, show ((((List.range l.length).map (part l a)).length : Nat) : Int) = (l.length : Int) by simp]
  exact tax_loop h a1 l.length k 0 (by omega) (by have := h.2.2; omega)
theorem tax_no {k : Nat} {l : List S58} (h : ¬ RT l) (hl : l.length ≤ 1000000) (hk : l.length + 1 ≤ k) (a : Int) : brackets_Tax.f k l a = some (0, 1) := by
  unfold brackets_Tax.f
  rw [parts_no h hl hk, Option.bind_some, if_neg (by omega)]
theorem tax_over {k : Nat} {l : List S58} (h : RT l) (hk : 20 ≤ k) {a : Int} (a0 : a < -9223372036854775807) : brackets_Tax.f k l a = some (0, 3) := by
  unfold brackets_Tax.f
  rw [parts_over h hk a0, Option.bind_some, if_neg (by omega)]
theorem rt_one {r : Int} (r0 : 0 ≤ r) (r1 : r ≤ 10000) : RT [⟨0, r⟩] := by
  refine ⟨fun n hn => ?_, by simp, by simp⟩
  obtain rfl : n = 0 := by simp at hn; omega
  exact ⟨fun _ => rfl, fun z => absurd z (by omega), r0, r1⟩
theorem rt_two {r s c : Int} (r0 : 0 ≤ r) (r1 : r ≤ 10000) (s0 : 0 ≤ s) (s1 : s ≤ 10000) (c0 : 0 < c) : RT [⟨0, r⟩, ⟨c, s⟩] := by
  refine ⟨fun n hn => ?_, by simp, by simp⟩
  have : n = 0 ∨ n = 1 := by simp at hn; omega
  rcases this with rfl | rfl
  · exact ⟨fun _ => rfl, fun z => absurd z (by omega), r0, r1⟩
  · exact ⟨fun z => absurd z (by omega), fun _ => c0, s0, s1⟩
theorem rt_nil : ¬ RT [] := fun h => by have := h.2.1; simp at this
theorem wf_of {k : IntKind} {a : Int} (h : (Lit.int k a).wf = true) : k.min ≤ a ∧ a ≤ k.max := by simpa [Lit.wf] using h
theorem wf_i64 {a : Int} (h : (Lit.int .i64 a).wf = true) : -9223372036854775808 ≤ a ∧ a ≤ 9223372036854775807 := wf_of h
theorem wf_u64 {a : Int} (h : (Lit.int .u64 a).wf = true) : 0 ≤ a ∧ a ≤ 18446744073709551615 := wf_of h
theorem wf_u16 {a : Int} (h : (Lit.int .u16 a).wf = true) : 0 ≤ a ∧ a ≤ 65535 := wf_of h
end Go.Proofs.Ytocaneaofdbpoaa.Wd
