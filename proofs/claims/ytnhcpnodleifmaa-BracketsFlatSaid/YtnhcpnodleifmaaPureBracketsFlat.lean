/- Proved here: BracketsFlat as the print tells it, over numbers alone, for any numbers of 16 and 64 bits. -/
import Derived.Test.YtnhcpnodleifmaaPAx10
import Derived.Test.YtnhcpnodleifmaaBa
set_option linter.unusedVariables false
namespace Go.Proofs.Ytnhcpnodleifmaa.Pure
open Go.RowKit Go.Proofs.Ytnhcpnodleifmaa.PA Go.Proofs.YtnhcpnodleifmaaW.PrintWords Go.Proofs.YtnhcpnodleifmaaW.PrintLast
open Go.Proofs.Ytnhcpnodleifmaa.Wd

theorem tx_one (r a : Int) : tx [⟨0, r⟩] a 1 = (if a ≤ 0 then 0 else a) * r / 10000 := by
  simp [tx, Wd.part, row]
theorem tx_two (r s c a : Int) : tx [⟨0, r⟩, ⟨c, s⟩] a 2 = (if a ≤ 0 then 0 else min a c) * r / 10000 + (if a ≤ c then 0 else a - c) * s / 10000 := by
  simp [tx, Wd.part, row]
theorem BracketsFlat : paymasterlaw05_BracketsFlat.Pure := by
  intro b a c w0 w1 w2
  have B := wf_u16 w0
  have A := wf_u64 w1
  have C := wf_u64 w2
  obtain ⟨k, hk⟩ : ∃ k : Nat, 100 ≤ k := ⟨100, Nat.le_refl _⟩
  refine ⟨k, ?_⟩
  unfold paymasterlaw05_BracketsFlat.f
  rw [Int.tmod_eq_emod_of_nonneg B.1, w64 (x := b % 10001) (by omega) (by omega), w64 (x := a / 4) (by omega) (by omega), w64 (x := c / 4) (by omega) (by omega), w64 (x := 1 + c / 4) (by omega) (by omega), w64 (x := -(a / 4)) (by omega) (by omega)]
  have r0 : 0 ≤ b % 10001 ∧ b % 10001 ≤ 10000 := by omega
  have a0 : 0 ≤ a / 4 ∧ a / 4 ≤ 4611686018427387904 := by omega
  have c0 : 0 < 1 + c / 4 := by omega
  generalize b % 10001 = r at r0 ⊢
  generalize a / 4 = x at a0 ⊢
  generalize 1 + c / 4 = y at c0 ⊢
  have t1 := rt_one r0.1 r0.2
  have t2 := rt_two r0.1 r0.2 r0.1 r0.2 c0
  have t3 := rt_one (r := 10000) (by omega) (by omega)
  rw [tax_yes t1 (by omega) (by omega) (by omega), Option.bind_some, tax_yes t2 (by omega) (by omega) (by omega), Option.bind_some, tax_yes t1 (by omega) (by omega) (by omega), Option.bind_some, tax_yes t3 (by omega) (by omega) (by omega), Option.bind_some]
  simp only [List.length_cons, List.length_nil, Nat.zero_add]
  rw [tx_one, tx_two, tx_one, tx_one]
  have e1 : (if x ≤ 0 then 0 else x) = x := by split <;> omega
  have e2 : (if -x ≤ 0 then 0 else -x) = 0 := by split <;> omega
  have e3 : (if x ≤ 0 then 0 else min x y) = min x y := by split <;> omega
  rw [e1, e2, e3]
  have m : x * r = min x y * r + (if x ≤ y then 0 else x - y) * r := by
    rw [← Int.add_mul]
    congr 1
    split <;> omega
  have m0 : 0 ≤ min x y * r := Int.mul_nonneg (by omega) r0.1
  have m1 : 0 ≤ (if x ≤ y then 0 else x - y) * r := Int.mul_nonneg (by split <;> omega) r0.1
  have mx := Int.mul_le_mul_of_nonneg_left r0.2 a0.1
  rw [m] at mx ⊢
  generalize min x y * r = p at *
  generalize (if x ≤ y then 0 else x - y) * r = q at *
  simp only [if_true]
  rw [w64 (x := (p + q) / 10000 - (p / 10000 + q / 10000)) (by omega) (by omega), if_pos (by omega), if_pos (by omega), if_pos (by omega), if_pos (by omega), awake_eq (by omega)]
  rfl
end Go.Proofs.Ytnhcpnodleifmaa.Pure
