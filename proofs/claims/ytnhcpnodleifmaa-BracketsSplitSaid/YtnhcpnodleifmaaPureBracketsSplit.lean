/- Proved here: BracketsSplit as the print tells it, for any table and any two numbers of 64 bits; and its walk. -/
import Derived.Test.YtnhcpnodleifmaaPAx13
import Derived.Test.YtnhcpnodleifmaaBs
set_option linter.unusedVariables false
namespace Go.Proofs.Ytnhcpnodleifmaa.Pure
open Go.RowKit Go.Proofs.Ytnhcpnodleifmaa.PA Go.Proofs.YtnhcpnodleifmaaW.PrintWords Go.Proofs.YtnhcpnodleifmaaW.PrintLast
open Go.Proofs.Ytnhcpnodleifmaa.Wd

theorem BracketsSplit (l : List S34) (a b : Int) (A : 0 ≤ a ∧ a ≤ 18446744073709551615) (B : 0 ≤ b ∧ b ≤ 18446744073709551615) : ∃ k, paymasterlaw05_BracketsSplit.f k l a b = some true := by
  obtain ⟨k, hk⟩ : ∃ k : Nat, 300 ≤ k := ⟨300, Nat.le_refl _⟩
  refine ⟨k, ?_⟩
  obtain ⟨k, rfl⟩ : ∃ j, k = j + 2 := ⟨k - 2, by omega⟩
  unfold paymasterlaw05_BracketsSplit.f
  have yes : paymasterlaw05_BracketsSplit.j0 (k + 2) l a b true = some true := by
    simp only [paymasterlaw05_BracketsSplit.j0, if_true]
    rw [awake_eq (by omega)]
    rfl
  by_cases hl : (l.length : Int) > 11
  · rw [if_pos hl, yes]
  rw [if_neg hl]
  by_cases h : RT l
  · rw [refright_yes (by omega) h, Option.bind_some, Bool.not_true]
    have l1 := h.2.1
    obtain ⟨n, hn⟩ : ∃ n, n + 1 = l.length := ⟨l.length - 1, by omega⟩
    simp only [paymasterlaw05_BracketsSplit.j0, Bool.false_eq_true, if_false]
    rw [w64 (x := (l.length : Int) - 1) (by omega) (by omega), if_pos (by omega), if_pos (by omega), show (l.length : Int) - 1 = (n : Int) by omega, row_rd]
    by_cases g : (row l n).f0 > 1152921504606846976
    · rw [if_pos g, awake_eq (by omega)]
      rfl
    · rw [if_neg g]
      have nn := above_nn h n (by omega)
      have o := (h.1 n (by omega)).2.2
      rw [w64 (x := (row l n).f0 + 1) (by omega) (by omega), w64 (x := b / 16) (by omega) (by omega), w64 (x := a / 16) (by omega) (by omega), w64 (x := (row l n).f0 + 1 + b / 16) (by omega) (by omega)]
      have y0 : 0 ≤ b / 16 ∧ b / 16 ≤ 1152921504606846976 := by omega
      have x0 : 0 ≤ a / 16 ∧ a / 16 ≤ 1152921504606846976 := by omega
      generalize b / 16 = y at y0 ⊢
      generalize a / 16 = x at x0 ⊢
      simp only [Option.bind_some, List.nil_append]
      rw [if_pos (by simp; omega), if_pos (by simp; omega)]
      have ln : l.length - 1 = n := by omega
      obtain ⟨s, hs⟩ : ∃ s : S34, s = ⟨(row l n).f0 + 1 + y, (row l n).f1⟩ := ⟨_, rfl⟩
      rw [← hs]
      have s0 : s.f0 = (row l n).f0 + 1 + y := by rw [hs]
      have s1 : s.f1 = (row l n).f1 := by rw [hs]
      have hm := rt_more h (s := s) (by omega) (by rw [ln, s0]; omega) (by rw [s1]; exact o.1) (by rw [s1]; exact o.2)
      have pl := part_last (l := l) s x hn
      have t := tx_more1 (l := l) s x hn
      have ml : (l ++ [s]).length = l.length + 1 := by simp
      have sum : Wd.part (l ++ [s]) x n + Wd.part (l ++ [s]) x l.length = Wd.part l x n := by
        rw [pl.1, pl.2.1, pl.2.2]
        split <;> split <;> omega
      have p1 := part_bd hm (n := n) (by omega) x
      have p2 := part_bd hm (n := l.length) (by omega) x
      have tb := tx_bd h x l.length (Nat.le_refl _)
      have tb' := tx_bd hm x (l ++ [s]).length (Nat.le_refl _)
      have c1 := cov_le (l := l) x l.length
      have c2 := cov_le (l := l ++ [s]) x (l ++ [s]).length
      have diff : 0 ≤ tx l x l.length - tx (l ++ [s]) x (l ++ [s]).length ∧ tx l x l.length - tx (l ++ [s]) x (l ++ [s]).length ≤ 1 := by
        rw [t.1, t.2, s1, ← sum, Int.add_mul]
        generalize Wd.part (l ++ [s]) x n * (row l n).f1 = P
        generalize Wd.part (l ++ [s]) x l.length * (row l n).f1 = Q
        omega
      rw [tax_yes h (by omega) (by omega) (by omega), Option.bind_some, tax_yes hm (by omega) (by omega) (by omega), Option.bind_some, parts_yes h (by omega) (by omega) (by omega), Option.bind_some, parts_yes hm (by omega) (by omega) (by omega), Option.bind_some]
      simp only [if_true, List.length_map, List.length_range]
      rw [w64 (x := tx l x l.length - tx (l ++ [s]) x (l ++ [s]).length) (by omega) (by omega), if_pos (by omega), if_pos (by omega), if_pos (by omega), if_pos (by omega), if_pos (by omega), if_pos (by omega)]
      rw [map_at _ (by omega), map_at _ (by omega), map_at _ (by omega), w64 (by omega) (by omega), if_pos sum, awake_eq (by omega)]
      rfl
  · rw [refright_no (by omega) h, Option.bind_some, Bool.not_false, yes]
theorem BracketsSplit_walk (A0 : Option Addr) (l : List S34) (c0 : Nat) (a b : Int) (w : World) (hc : Kd.C k34 w A0 l.length l) (hl : l.length ≤ c0) (wa : (Lit.int .u64 a).wf = true) (wb : (Lit.int .u64 b).wf = true) :
    Calls Try.prog 8 #[.slice A0 l.length c0, .int .u64 a, .int .u64 b] w fun e w' => e = .returned (.bool true) ∧ Below w.heap.size w w' := by
  obtain ⟨k, h⟩ := BracketsSplit l a b (wf_u64 wa) (wf_u64 wb)
  exact paymasterlaw05_BracketsSplit.calls k A0 c0 l a b true w hc hl h
end Go.Proofs.Ytnhcpnodleifmaa.Pure
