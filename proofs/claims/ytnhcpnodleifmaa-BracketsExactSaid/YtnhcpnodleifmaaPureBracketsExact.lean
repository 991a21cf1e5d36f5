/- Proved here: BracketsExact as the print tells it, for any table and any whole number; and its walk. -/
import Derived.Test.YtnhcpnodleifmaaPAx9
import Derived.Test.YtnhcpnodleifmaaBt
set_option linter.unusedVariables false
namespace Go.Proofs.Ytnhcpnodleifmaa.Pure
open Go.RowKit Go.Proofs.Ytnhcpnodleifmaa.PA Go.Proofs.YtnhcpnodleifmaaW.PrintWords Go.Proofs.YtnhcpnodleifmaaW.PrintLast
open Go.Proofs.Ytnhcpnodleifmaa.Wd

theorem exact_loop {k0 : Nat} (hk0 : 60 ≤ k0) {l : List S34} (h : RT l) {a : Int} (a1 : a ≤ 9223372036854775807) (d : Nat) : ∀ (k n : Nat), n + d = l.length → d + k0 + 1 ≤ k →
    paymasterlaw05_BracketsExact.l0 k l a ((List.range l.length).map (Wd.part l a)) (rtx l a l.length) (rtx l a n) l (l.length : Int) (n : Int) = some true := by
  have l12 := h.2.2
  induction d with
  | zero =>
    intro k n hn hk
    obtain ⟨k, rfl⟩ : ∃ j, k = j + 1 := ⟨k - 1, by omega⟩
    obtain rfl : n = l.length := by omega
    simp only [paymasterlaw05_BracketsExact.l0]
    rw [if_neg (by omega), if_pos trivial, awake_eq (by omega)]
    rfl
  | succ d ih =>
    intro k n hn hk
    obtain ⟨k, rfl⟩ : ∃ j, k = j + 1 := ⟨k - 1, by omega⟩
    have := ih k (n + 1) (by omega) (by omega)
    rw [show ((n + 1 : Nat) : Int) = (n : Int) + 1 by omega] at this
    simp only [paymasterlaw05_BracketsExact.l0]
    rw [if_pos (by omega), if_pos (by omega), if_pos (by omega), if_pos (by simp; omega), refpart_eq h (by omega) a1, Option.bind_some, map_at _ (by omega), if_pos rfl, row_rd, w64 (x := (n : Int) + 1) (by omega) (by omega)]
    have e : rtx l a (n + 1) = if a > (row l n).f0 then (row l n).f1 else rtx l a n := rfl
    rw [e] at this
    by_cases c : a > (row l n).f0
    · rw [if_pos c] at this ⊢
      exact this
    · rw [if_neg c] at this ⊢
      exact this
theorem BracketsExact (l : List S34) (a : Int) (A : -9223372036854775808 ≤ a ∧ a ≤ 9223372036854775807) : ∃ k, paymasterlaw05_BracketsExact.f k l a = some true := by
  obtain ⟨k, hk⟩ : ∃ k : Nat, 30000 ≤ k := ⟨30000, Nat.le_refl _⟩
  refine ⟨k, ?_⟩
  obtain ⟨k, rfl⟩ : ∃ j, k = j + 3 := ⟨k - 3, by omega⟩
  unfold paymasterlaw05_BracketsExact.f
  by_cases hl : (l.length : Int) > 40
  · rw [if_pos hl, awake_eq (by omega)]
    rfl
  rw [if_neg hl]
  have aw := awake_eq (k := k + 1) (by omega)
  by_cases h : RT l
  · by_cases g : a = -9223372036854775808
    · rw [parts_over h (by omega) (by omega), Option.bind_some, tax_over h (by omega) (by omega), Option.bind_some, rate_over h (by omega) (by omega), Option.bind_some, refright_yes (by omega) h, Option.bind_some, right_yes h (by omega), Option.bind_some]
      simp only [bne_self_eq_false, Bool.false_eq_true, if_false, if_true, paymasterlaw05_BracketsExact.j0, paymasterref01_Right.f, Option.bind_some]
      rw [show (!(a != -9223372036854775808)) = true by simp [g]]
      simp only [paymasterlaw05_BracketsExact.j1, if_true]
      rw [aw]
      rfl
    · rw [parts_yes h (by omega) (by omega) A.2, Option.bind_some, tax_yes h (by omega) (by omega) A.2, Option.bind_some, rate_yes h (by omega) (by omega), Option.bind_some, refright_yes (by omega) h, Option.bind_some, right_yes h (by omega), Option.bind_some]
      simp only [bne_self_eq_false, Bool.false_eq_true, if_false, if_true, paymasterlaw05_BracketsExact.j0, paymasterref01_Right.f, Option.bind_some]
      rw [show (!(a != -9223372036854775808)) = false by simp [g]]
      simp only [paymasterlaw05_BracketsExact.j1, Bool.false_eq_true, if_false, List.length_map, List.length_range, if_true]
      rw [reftax_eq h (by omega) A.2, Option.bind_some, bne_self_eq_false]
      simp only [paymasterlaw05_BracketsExact.j2, Bool.false_eq_true, if_false]
      exact exact_loop (k0 := 60) (by omega) h A.2 l.length k 0 (by omega) (by have := h.2.2; omega)
  · rw [parts_no h (by omega) (by omega), Option.bind_some, tax_no h (by omega) (by omega), Option.bind_some, rate_no h (by omega) (by omega), Option.bind_some, refright_no (by omega) h, Option.bind_some, right_no h (by omega) (by omega), Option.bind_some]
    simp only [bne_self_eq_false, Bool.false_eq_true, if_false, if_true, paymasterlaw05_BracketsExact.j0, paymasterlaw05_BracketsExact.j1]
    rw [aw]
    rfl
theorem BracketsExact_walk (A0 : Option Addr) (l : List S34) (c0 : Nat) (a : Int) (w : World) (hc : Kd.C k34 w A0 l.length l) (hl : l.length ≤ c0) (wa : (Lit.int .i64 a).wf = true) :
    Calls Try.prog 3 #[.slice A0 l.length c0, .int .i64 a] w fun e w' => e = .returned (.bool true) ∧ Below w.heap.size w w' := by
  obtain ⟨k, h⟩ := BracketsExact l a (wf_i64 wa)
  exact paymasterlaw05_BracketsExact.calls k A0 c0 l a true w hc hl h
end Go.Proofs.Ytnhcpnodleifmaa.Pure
