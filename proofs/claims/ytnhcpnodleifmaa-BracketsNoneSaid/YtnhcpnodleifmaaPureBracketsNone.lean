/- Proved here: BracketsNone as the print tells it, for any table and any number of 64 bits; and its walk. -/
import Derived.Test.YtnhcpnodleifmaaPAx11
import Derived.Test.YtnhcpnodleifmaaBr
set_option linter.unusedVariables false
namespace Go.Proofs.Ytnhcpnodleifmaa.Pure
open Go.RowKit Go.Proofs.Ytnhcpnodleifmaa.PA Go.Proofs.YtnhcpnodleifmaaW.PrintWords Go.Proofs.YtnhcpnodleifmaaW.PrintLast
open Go.Proofs.Ytnhcpnodleifmaa.Wd

/-- The table with another rate in all its rows. -/
def re (r : Int) (s : S34) : S34 := ⟨s.f0, r⟩
theorem row_map (l : List S34) (r : Int) {n : Nat} (hn : n < l.length) : row (l.map (re r)) n = re r (row l n) := by
  unfold row
  rw [List.getD_eq_getElem?_getD, List.getElem?_map, List.getD_eq_getElem?_getD, List.getElem?_eq_getElem hn]
  rfl
theorem rt_map {l : List S34} (h : RT l) {r : Int} (r0 : 0 ≤ r) (r1 : r ≤ 10000) : RT (l.map (re r)) := by
  refine ⟨fun n hn => ?_, by simpa using h.2.1, by simpa using h.2.2⟩
  rw [List.length_map] at hn
  have o := h.1 n hn
  refine ⟨fun e => by rw [row_map l r hn]; exact o.1 e, fun e => ?_, by rw [row_map l r hn]; exact r0, by rw [row_map l r hn]; exact r1⟩
  rw [row_map l r hn, row_map l r (by omega)]
  exact o.2.1 e
theorem part_map (l : List S34) (r a : Int) {n : Nat} (hn : n < l.length) : Wd.part (l.map (re r)) a n = Wd.part l a n := by
  unfold Wd.part
  rw [row_map l r hn, List.length_map]
  by_cases g : n + 1 < l.length
  · rw [row_map l r g]
    rfl
  · rw [if_neg g, if_neg g]
    rfl
theorem tx_none (l : List S34) (a : Int) : ∀ n, n ≤ l.length → tx (l.map (re 0)) a n = 0
  | 0, _ => rfl
  | n + 1, hn => by
    simp only [tx]
    rw [tx_none l a n (by omega), row_map l 0 (by omega)]
    simp [re]
theorem tx_all {l : List S34} (h : RT l) (a : Int) : ∀ n, n ≤ l.length → tx (l.map (re 10000)) a n = cov l a n
  | 0, _ => by rw [cov_zero h]; rfl
  | n + 1, hn => by
    simp only [tx]
    rw [tx_all h a n (by omega), row_map l 10000 (by omega), part_map l 10000 a (by omega), part_cov h (by omega)]
    simp only [re]
    omega
theorem rtx_all {l : List S34} (h : RT l) (a : Int) : ∀ n, n < l.length → rtx (l.map (re 10000)) a (n + 1) = if a > 0 then 10000 else 0
  | 0, hn => by
    have := (h.1 0 hn).1 rfl
    simp only [rtx]
    rw [row_map l 10000 hn]
    simp only [re, this]
  | n + 1, hn => by
    have ih := rtx_all h a n (by omega)
    have z := above_nn h (n + 1) hn
    have y := above_nn h n (by omega)
    unfold rtx
    rw [row_map l 10000 hn, ih]
    show (if a > (row l (n + 1)).f0 then (10000 : Int) else if a > 0 then 10000 else 0) = if a > 0 then 10000 else 0
    by_cases g : a > (row l (n + 1)).f0
    · rw [if_pos g, if_pos (by omega)]
    · rw [if_neg g]
theorem none_loop {k0 : Nat} (hk0 : 100 ≤ k0) {l : List S34} (h : RT l) {a : Int} (a0 : 0 ≤ a) (a1 : a ≤ 9223372036854775807) (d : Nat) : ∀ (k n : Nat), n + d = l.length → d + k0 + 1 ≤ k →
    paymasterlaw05_BracketsNone.l0 k a ((l.take n).map (re 0)) ((l.take n).map (re 10000)) l (l.length : Int) (n : Int) = some true := by
  have l12 := h.2.2
  induction d with
  | zero =>
    intro k n hn hk
    obtain ⟨k, rfl⟩ : ∃ j, k = j + 1 := ⟨k - 1, by omega⟩
    obtain rfl : n = l.length := by omega
    obtain ⟨m, hm⟩ : ∃ m, l.length = m + 1 := ⟨l.length - 1, by have := h.2.1; omega⟩
    simp only [paymasterlaw05_BracketsNone.l0]
    rw [if_neg (by omega), List.take_length]
    rw [tax_yes (rt_map h (by omega) (by omega)) (by omega) (by omega) a1, Option.bind_some, tax_yes (rt_map h (by omega) (by omega)) (by omega) (by omega) a1, Option.bind_some, rate_yes (rt_map h (by omega) (by omega)) (by omega) (by omega), Option.bind_some]
    simp only [List.length_map]
    rw [tx_none l a _ (Nat.le_refl _), tx_all h a _ (Nat.le_refl _), cov_top]
    have r := rtx_all h a m (by omega)
    rw [← hm] at r
    rw [r, if_pos rfl, if_pos (by omega)]
    simp only [if_true]
    rw [awake_eq (by omega)]
    by_cases z : a > 0
    · simp [z]
    · simp [z]
  | succ d ih =>
    intro k n hn hk
    obtain ⟨k, rfl⟩ : ∃ j, k = j + 1 := ⟨k - 1, by omega⟩
    have tk : l.take (n + 1) = l.take n ++ [row l n] := by
      rw [List.take_succ_eq_append_getElem (by omega)]
      unfold row
      rw [List.getD_eq_getElem?_getD, List.getElem?_eq_getElem (by omega)]
      rfl
    have := ih k (n + 1) (by omega) (by omega)
    rw [show ((n + 1 : Nat) : Int) = (n : Int) + 1 by omega, tk, List.map_append, List.map_append] at this
    simp only [paymasterlaw05_BracketsNone.l0]
    rw [if_pos (by omega), if_pos (by omega), if_pos (by omega), row_rd, w64 (x := (n : Int) + 1) (by omega) (by omega)]
    simp only [Option.bind_some]
    rw [if_pos (by simp; omega), if_pos (by simp; omega)]
    exact this
theorem BracketsNone (l : List S34) (a : Int) (A : 0 ≤ a ∧ a ≤ 18446744073709551615) : ∃ k, paymasterlaw05_BracketsNone.f k l a = some true := by
  obtain ⟨k, hk⟩ : ∃ k : Nat, 300 ≤ k := ⟨300, Nat.le_refl _⟩
  refine ⟨k, ?_⟩
  obtain ⟨k, rfl⟩ : ∃ j, k = j + 1 := ⟨k - 1, by omega⟩
  unfold paymasterlaw05_BracketsNone.f
  have yes : paymasterlaw05_BracketsNone.j0 (k + 1) l a true = some true := by
    simp only [paymasterlaw05_BracketsNone.j0, if_true]
    rw [awake_eq (by omega)]
    rfl
  by_cases hl : (l.length : Int) > 12
  · rw [if_pos hl, yes]
  rw [if_neg hl]
  by_cases h : RT l
  · rw [refright_yes (by omega) h, Option.bind_some]
    simp only [paymasterlaw05_BracketsNone.j0, Bool.not_true, Bool.false_eq_true, if_false]
    rw [w64 (by omega) (by omega)]
    have := none_loop (k0 := 100) (by omega) h (a := a / 4) (by omega) (by omega) l.length k 0 (by omega) (by omega)
    simpa using this
  · rw [refright_no (by omega) h, Option.bind_some, Bool.not_false, yes]
theorem BracketsNone_walk (A0 : Option Addr) (l : List S34) (c0 : Nat) (a : Int) (w : World) (hc : Kd.C k34 w A0 l.length l) (hl : l.length ≤ c0) (wa : (Lit.int .u64 a).wf = true) :
    Calls Try.prog 6 #[.slice A0 l.length c0, .int .u64 a] w fun e w' => e = .returned (.bool true) ∧ Below w.heap.size w w' := by
  obtain ⟨k, h⟩ := BracketsNone l a (wf_u64 wa)
  exact paymasterlaw05_BracketsNone.calls k A0 c0 l a true w hc hl h
end Go.Proofs.Ytnhcpnodleifmaa.Pure
