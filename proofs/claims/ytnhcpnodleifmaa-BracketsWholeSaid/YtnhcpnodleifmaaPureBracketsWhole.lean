/- Proved here: BracketsWhole as the print tells it, for any table and any two numbers of 64 bits; and its walk. -/
import Derived.Test.YtnhcpnodleifmaaPAx10
import Derived.Test.YtnhcpnodleifmaaBa
set_option linter.unusedVariables false
namespace Go.Proofs.Ytnhcpnodleifmaa.Pure
open Go.RowKit Go.Proofs.Ytnhcpnodleifmaa.PA Go.Proofs.YtnhcpnodleifmaaW.PrintWords Go.Proofs.YtnhcpnodleifmaaW.PrintLast
open Go.Proofs.Ytnhcpnodleifmaa.Wd

theorem whole_loop {k0 : Nat} (hk0 : 60 ≤ k0) {l : List S34} (h : RT l) {a b : Int} (a0 : 0 ≤ a) (hab : a ≤ b) (b1 : b ≤ 9223372036854775807) (d : Nat) : ∀ (k n : Nat), n + d = l.length → d + k0 + 1 ≤ k →
    paymasterlaw05_BracketsWhole.l0 k a b (tx l a l.length) (tx l b l.length) (cov l a n) ((List.range l.length).map (Wd.part l a)) (l.length : Int) (n : Int) = some true := by
  have l12 := h.2.2
  induction d with
  | zero =>
    intro k n hn hk
    obtain ⟨k, rfl⟩ : ∃ j, k = j + 1 := ⟨k - 1, by omega⟩
    obtain rfl : n = l.length := by omega
    have t := tx_bd h a l.length (Nat.le_refl _)
    have m := tx_more h hab l.length (Nat.le_refl _)
    have t' := tx_bd h b l.length (Nat.le_refl _)
    rw [cov_top] at t t' m
    rw [cov_top] at m
    simp only [paymasterlaw05_BracketsWhole.l0]
    rw [if_neg (by omega), cov_top, if_pos (by omega), if_pos (by omega), if_pos (by omega), w64 (by omega) (by omega), w64 (by omega) (by omega), if_pos (by omega), if_pos (by omega), awake_eq (by omega)]
    rfl
  | succ d ih =>
    intro k n hn hk
    obtain ⟨k, rfl⟩ : ∃ j, k = j + 1 := ⟨k - 1, by omega⟩
    have p := part_bd h (n := n) (by omega) a
    have c := part_cov h (n := n) (by omega) a
    have c1 := cov_le (l := l) a n
    have c2 := cov_le (l := l) a (n + 1)
    have c3 := tx_bd h a n (by omega)
    have := ih k (n + 1) (by omega) (by omega)
    rw [show ((n + 1 : Nat) : Int) = (n : Int) + 1 by omega, c] at this
    simp only [paymasterlaw05_BracketsWhole.l0]
    rw [if_pos (by omega), if_pos (by omega), if_pos (by simp; omega), map_at _ (by omega), w64 (x := cov l a n + Wd.part l a n) (by omega) (by omega), w64 (x := (n : Int) + 1) (by omega) (by omega)]
    exact this
theorem BracketsWhole (l : List S34) (a b : Int) (A : 0 ≤ a ∧ a ≤ 18446744073709551615) (B : 0 ≤ b ∧ b ≤ 18446744073709551615) : ∃ k, paymasterlaw05_BracketsWhole.f k l a b = some true := by
  obtain ⟨k, hk⟩ : ∃ k : Nat, 200 ≤ k := ⟨200, Nat.le_refl _⟩
  refine ⟨k, ?_⟩
  obtain ⟨k, rfl⟩ : ∃ j, k = j + 1 := ⟨k - 1, by omega⟩
  unfold paymasterlaw05_BracketsWhole.f
  by_cases hl : (l.length : Int) > 12
  · rw [if_pos hl, awake_eq (by omega)]
    rfl
  rw [if_neg hl, w64 (x := a / 4) (by omega) (by omega), w64 (x := b / 4) (by omega) (by omega), w64 (x := a / 4 + b / 4) (by omega) (by omega)]
  have a0 : 0 ≤ a / 4 := by omega
  have b0 : a / 4 ≤ a / 4 + b / 4 := by omega
  have b1 : a / 4 + b / 4 ≤ 9223372036854775806 := by omega
  generalize a / 4 + b / 4 = y at b0 b1 ⊢
  generalize a / 4 = x at a0 b0 ⊢
  by_cases h : RT l
  · rw [parts_yes h (by omega) (by omega) (by omega), Option.bind_some, tax_yes h (by omega) (by omega) (by omega), Option.bind_some, tax_yes h (by omega) (by omega) (by omega), Option.bind_some]
    simp only [if_true, bne_self_eq_false, paymasterlaw05_BracketsWhole.j0, Bool.false_eq_true, if_false]
    have g := whole_loop (k0 := 60) (by omega) h a0 b0 (by omega) l.length k 0 (by omega) (by omega)
    rw [cov_zero h] at g
    rw [show (((List.range l.length).map (Wd.part l x)).length : Int) = (l.length : Int) by simp]
    exact g
  · rw [parts_no h (by omega) (by omega), Option.bind_some, tax_no h (by omega) (by omega), Option.bind_some, tax_no h (by omega) (by omega), Option.bind_some]
    rw [if_neg (by omega)]
    simp only [paymasterlaw05_BracketsWhole.j0, if_true]
    rw [awake_eq (by omega)]
    rfl
theorem BracketsWhole_walk (A0 : Option Addr) (l : List S34) (c0 : Nat) (a b : Int) (w : World) (hc : Kd.C k34 w A0 l.length l) (hl : l.length ≤ c0) (wa : (Lit.int .u64 a).wf = true) (wb : (Lit.int .u64 b).wf = true) :
    Calls Try.prog 4 #[.slice A0 l.length c0, .int .u64 a, .int .u64 b] w fun e w' => e = .returned (.bool true) ∧ Below w.heap.size w w' := by
  obtain ⟨k, h⟩ := BracketsWhole l a b (wf_u64 wa) (wf_u64 wb)
  exact paymasterlaw05_BracketsWhole.calls k A0 c0 l a b true w hc hl h
end Go.Proofs.Ytnhcpnodleifmaa.Pure
