/- A row more at a table's end. -/
import Derived.Test.YtnhcpnodleifmaaBr
set_option linter.unusedVariables false
namespace Go.Proofs.Ytnhcpnodleifmaa.Wd
open Go.RowKit Go.Proofs.Ytnhcpnodleifmaa.PA Go.Proofs.YtnhcpnodleifmaaW.PrintWords Go.Proofs.YtnhcpnodleifmaaW.PrintMore
theorem row_more (l : List S34) (s : S34) {n : Nat} (hn : n < l.length) : row (l ++ [s]) n = row l n := by
  unfold row
  rw [List.getD_eq_getElem?_getD, List.getD_eq_getElem?_getD, List.getElem?_append_left hn]
theorem row_new (l : List S34) (s : S34) : row (l ++ [s]) l.length = s := by
  unfold row
  rw [List.getD_eq_getElem?_getD, List.getElem?_append_right (Nat.le_refl _), Nat.sub_self]
  rfl
theorem rt_more {l : List S34} (h : RT l) {s : S34} (hl : l.length ≤ 11) (hs : (row l (l.length - 1)).f0 < s.f0) (r0 : 0 ≤ s.f1) (r1 : s.f1 ≤ 10000) : RT (l ++ [s]) := by
  have l1 := h.2.1
  refine ⟨fun n hn => ?_, by simp, by simp; omega⟩
  rw [List.length_append, List.length_singleton] at hn
  by_cases g : n < l.length
  · have o := h.1 n g
    refine ⟨fun e => by rw [row_more l s g]; exact o.1 e, fun e => ?_, by rw [row_more l s g]; exact o.2.2.1, by rw [row_more l s g]; exact o.2.2.2⟩
    rw [row_more l s g, row_more l s (by omega)]
    exact o.2.1 e
  · obtain rfl : n = l.length := by omega
    refine ⟨fun e => absurd e (by omega), fun e => ?_, by rw [row_new]; exact r0, by rw [row_new]; exact r1⟩
    rw [row_new, row_more l s (by omega)]
    exact hs
/-- All rows but the last are as they were. -/
theorem part_more (l : List S34) (s : S34) (a : Int) {n : Nat} (hn : n + 1 < l.length) : part (l ++ [s]) a n = part l a n := by
  have e : n + 1 < (l ++ [s]).length := by rw [List.length_append]; omega
  unfold part
  rw [row_more l s (by omega), row_more l s hn, if_pos (c := n + 1 < l.length) hn, if_pos (c := n + 1 < (l ++ [s]).length) e]
theorem part_last {l : List S34} (s : S34) (a : Int) {n : Nat} (hn : n + 1 = l.length) : part (l ++ [s]) a n = (if a ≤ (row l n).f0 then 0 else min a s.f0 - (row l n).f0) ∧ part l a n = (if a ≤ (row l n).f0 then 0 else a - (row l n).f0) ∧ part (l ++ [s]) a l.length = if a ≤ s.f0 then 0 else a - s.f0 := by
  have ml : (l ++ [s]).length = l.length + 1 := by rw [List.length_append, List.length_singleton]
  refine ⟨?_, ?_, ?_⟩
  · unfold part
    rw [row_more l s (by omega), if_pos (c := n + 1 < (l ++ [s]).length) (by omega), hn, row_new]
  · unfold part
    rw [if_neg (c := n + 1 < l.length) (by omega)]
  · unfold part
    rw [row_new, if_neg (c := l.length + 1 < (l ++ [s]).length) (by omega)]
theorem tx_part {l m : List S34} {a : Int} : ∀ n, (∀ i, i < n → part l a i = part m a i ∧ row l i = row m i) → tx l a n = tx m a n
  | 0, _ => rfl
  | n + 1, h => by
    simp only [tx]
    rw [tx_part n (fun i hi => h i (by omega)), (h n (by omega)).1, (h n (by omega)).2]
/-- The taxes of a table and of the one with a row more. -/
theorem tx_more1 {l : List S34} (s : S34) (a : Int) {n : Nat} (hn : n + 1 = l.length) :
    tx l a l.length = tx l a n + part l a n * (row l n).f1 / 10000 ∧ tx (l ++ [s]) a (l ++ [s]).length = tx l a n + part (l ++ [s]) a n * (row l n).f1 / 10000 + part (l ++ [s]) a l.length * s.f1 / 10000 := by
  have e : tx (l ++ [s]) a n = tx l a n := tx_part n (fun i hi => ⟨part_more l s a (by omega), row_more l s (by omega)⟩)
  have e1 : tx l a l.length = tx l a (n + 1) := by rw [hn]
  have e2 : tx (l ++ [s]) a (l ++ [s]).length = tx (l ++ [s]) a (n + 1 + 1) := by rw [List.length_append, List.length_singleton, hn]
  refine ⟨by rw [e1]; rfl, ?_⟩
  rw [e2]
  simp only [tx]
  rw [e, row_more l s (by omega), hn, row_new]
end Go.Proofs.Ytnhcpnodleifmaa.Wd
