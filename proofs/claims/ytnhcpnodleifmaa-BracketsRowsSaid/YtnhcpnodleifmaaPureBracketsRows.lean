/- Proved here: BracketsRows as the print tells it, for any table and any two numbers of 64 and 16 bits; and its walk. -/
import Derived.Test.YtnhcpnodleifmaaPAx12
import Derived.Test.YtnhcpnodleifmaaBs
set_option linter.unusedVariables false
namespace Go.Proofs.Ytnhcpnodleifmaa.Pure
open Go.RowKit Go.Proofs.Ytnhcpnodleifmaa.PA Go.Proofs.YtnhcpnodleifmaaW.PrintWords Go.Proofs.YtnhcpnodleifmaaW.PrintLast
open Go.Proofs.Ytnhcpnodleifmaa.Wd

theorem rows_loop {k0 : Nat} (hk0 : 60 ≤ k0) {l m : List S34} (h : RT m) (hm : m.length = l.length + 1) {a t : Int} (a0 : 0 ≤ a) (a1 : a ≤ 9223372036854775807) (top : ∀ n, n < m.length → (row m n).f0 ≤ 9223372036854775807) (z : Wd.part m a l.length = 0) (d : Nat) : ∀ (k n : Nat), n + d = m.length → d + k0 + 1 ≤ k →
    paymasterlaw05_BracketsRows.l0 k l m t t ((List.range m.length).map (Wd.part m a)) ((List.range m.length).map (Wd.part m a)) (m.length : Int) (n : Int) = some true := by
  have l12 := h.2.2
  induction d with
  | zero =>
    intro k n hn hk
    obtain ⟨k, rfl⟩ : ∃ j, k = j + 1 := ⟨k - 1, by omega⟩
    simp only [paymasterlaw05_BracketsRows.l0]
    rw [if_neg (by omega), if_pos trivial, if_pos (by omega), if_pos (by simp; omega), map_at _ (by omega), if_pos z, awake_eq (by omega)]
    rfl
  | succ d ih =>
    intro k n hn hk
    obtain ⟨k, rfl⟩ : ∃ j, k = j + 1 := ⟨k - 1, by omega⟩
    have p := part_bd h (n := n) (by omega) a
    have := ih k (n + 1) (by omega) (by omega)
    rw [show ((n + 1 : Nat) : Int) = (n : Int) + 1 by omega] at this
    simp only [paymasterlaw05_BracketsRows.l0]
    rw [if_pos (by omega), if_pos (by omega), if_pos (by simp; omega), map_at _ (by omega), if_neg (by omega), w64 (x := (n : Int) + 1) (by omega) (by omega), row_rd, row_rd1]
    by_cases g : (n : Int) + 1 < (m.length : Int)
    · have up := above_lt h (n := n) (by omega)
      have nn := above_nn h n (by omega)
      have tp := top (n + 1) (by omega)
      have pw : Wd.part m a n ≤ (row m (n + 1)).f0 - (row m n).f0 := by
        unfold Wd.part
        split
        · omega
        · rw [if_pos (by omega)]; omega
      rw [if_pos g, if_pos (by omega), if_pos (by omega), w64 (by omega) (by omega), if_neg (by omega)]
      exact this
    · rw [if_neg g]
      exact this
theorem above_top {l : List S34} (h : RT l) : ∀ d n, n + d + 1 = l.length → (row l n).f0 ≤ (row l (l.length - 1)).f0
  | 0, n, e => by rw [show l.length - 1 = n by omega]; exact Int.le_refl _
  | d + 1, n, e => by
    have a := above_top h d (n + 1) (by omega)
    have b := above_lt h (n := n) (by omega)
    omega
theorem BracketsRows (l : List S34) (a b : Int) (A : 0 ≤ a ∧ a ≤ 18446744073709551615) (B : 0 ≤ b ∧ b ≤ 65535) : ∃ k, paymasterlaw05_BracketsRows.f k l a b = some true := by
  obtain ⟨k, hk⟩ : ∃ k : Nat, 300 ≤ k := ⟨300, Nat.le_refl _⟩
  refine ⟨k, ?_⟩
  obtain ⟨k, rfl⟩ : ∃ j, k = j + 2 := ⟨k - 2, by omega⟩
  unfold paymasterlaw05_BracketsRows.f
  rw [Int.tmod_eq_emod_of_nonneg A.1, w64 (x := a % 1099511627776) (by omega) (by omega)]
  have x0 : 0 ≤ a % 1099511627776 ∧ a % 1099511627776 ≤ 1099511627775 := by omega
  generalize a % 1099511627776 = x at x0 ⊢
  have yes : paymasterlaw05_BracketsRows.j0 (k + 2) l b x true = some true := by
    simp only [paymasterlaw05_BracketsRows.j0, if_true]
    rw [awake_eq (by omega)]
    rfl
  by_cases hl : (l.length : Int) > 11
  · rw [if_pos hl, yes]
  rw [if_neg hl]
  by_cases h : RT l
  · rw [refright_yes (by omega) h, Option.bind_some, if_pos rfl]
    have l1 := h.2.1
    obtain ⟨n, hn⟩ : ∃ n, n + 1 = l.length := ⟨l.length - 1, by omega⟩
    rw [w64 (x := (l.length : Int) - 1) (by omega) (by omega), if_pos (by omega), if_pos (by omega), show (l.length : Int) - 1 = (n : Int) by omega, row_rd]
    by_cases g : (row l n).f0 > 2305843009213693952
    · rw [decide_eq_true g, yes]
    · rw [decide_eq_false g]
      have nn := above_nn h n (by omega)
      simp only [paymasterlaw05_BracketsRows.j0, Bool.false_eq_true, if_false, Option.bind_some, List.nil_append]
      rw [if_pos (by simp; omega), w64 (x := (l.length : Int) - 1) (by omega) (by omega), if_pos (by omega), if_pos (by omega), show (l.length : Int) - 1 = (n : Int) by omega, row_rd, if_pos (by simp; omega)]
      rw [mx_max, w64 (x := max x (row l n).f0 + 1) (by omega) (by omega), Int.tmod_eq_emod_of_nonneg B.1, w64 (x := b % 10001) (by omega) (by omega)]
      have ln : l.length - 1 = n := by omega
      obtain ⟨s, hs⟩ : ∃ s : S34, s = ⟨max x (row l n).f0 + 1, b % 10001⟩ := ⟨_, rfl⟩
      rw [← hs]
      have s0 : s.f0 = max x (row l n).f0 + 1 := by rw [hs]
      have s1 : s.f1 = b % 10001 := by rw [hs]
      have hm := rt_more h (s := s) (by omega) (by rw [ln, s0]; omega) (by rw [s1]; omega) (by rw [s1]; omega)
      have pl := part_last (l := l) s x hn
      have t := tx_more1 (l := l) s x hn
      have z : Wd.part (l ++ [s]) x l.length = 0 := by rw [pl.2.2, if_pos (by omega)]
      have same : tx (l ++ [s]) x (l ++ [s]).length = tx l x l.length := by
        rw [t.1, t.2, z, pl.1, pl.2.1, Int.zero_mul, Int.zero_ediv, Int.add_zero, show min x s.f0 = x by omega]
      have ml : (l ++ [s]).length = l.length + 1 := by simp
      rw [tax_yes h (by omega) (by omega) (by omega), Option.bind_some, tax_yes hm (by omega) (by omega) (by omega), Option.bind_some, parts_yes hm (by omega) (by omega) (by omega), Option.bind_some, same]
      simp only [if_true]
      rw [show (((List.range (l ++ [s]).length).map (Wd.part (l ++ [s]) x)).length : Int) = ((l ++ [s]).length : Int) by simp, bne_self_eq_false]
      simp only [paymasterlaw05_BracketsRows.j1, Bool.false_eq_true, if_false]
      rw [show (((List.range (l ++ [s]).length).map (Wd.part (l ++ [s]) x)).length : Int) = ((l ++ [s]).length : Int) by simp]
      refine rows_loop (k0 := 60) (by omega) hm ml x0.1 (by omega) (fun i hi => ?_) z (l ++ [s]).length k 0 (by omega) (by omega)
      by_cases q : i < l.length
      · have := above_top h (n - i) i (by omega)
        rw [row_more l s q]
        rw [ln] at this
        omega
      · rw [show i = l.length by omega, row_new, s0]
        omega
  · rw [refright_no (by omega) h, Option.bind_some, if_neg (by simp), yes]
theorem BracketsRows_walk (A0 : Option Addr) (l : List S34) (c0 : Nat) (a b : Int) (w : World) (hc : Kd.C k34 w A0 l.length l) (hl : l.length ≤ c0) (wa : (Lit.int .u64 a).wf = true) (wb : (Lit.int .u16 b).wf = true) :
    Calls Try.prog 7 #[.slice A0 l.length c0, .int .u64 a, .int .u16 b] w fun e w' => e = .returned (.bool true) ∧ Below w.heap.size w w' := by
  obtain ⟨k, h⟩ := BracketsRows l a b (wf_u64 wa) (wf_u16 wb)
  exact paymasterlaw05_BracketsRows.calls k A0 c0 l a b true w hc hl h
end Go.Proofs.Ytnhcpnodleifmaa.Pure
