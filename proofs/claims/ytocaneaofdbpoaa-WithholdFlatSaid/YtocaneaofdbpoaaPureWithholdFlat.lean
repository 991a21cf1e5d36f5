/- Proved here: WithholdFlat as the print tells it, over numbers alone, for any numbers of 16 and 64 bits. -/
import Derived.Test.YtocaneaofdbpoaaPAx19
import Derived.Test.YtocaneaofdbpoaaWj
set_option linter.unusedVariables false
namespace Go.Proofs.Ytocaneaofdbpoaa.Pure
open Go.RowKit Go.Proofs.Ytocaneaofdbpoaa.PA Go.Proofs.YtocaneaofdbpoaaW.PrintWords Go.Proofs.YtocaneaofdbpoaaW.PrintLast Go.Proofs.YtocaneaofdbpoaaW.PrintMore
open Go.Proofs.Ytocaneaofdbpoaa.Wd
theorem tx_one (r a : Int) : tx [⟨0, r⟩] a 1 = (if a ≤ 0 then 0 else a) * r / 10000 := by
  simp [tx, Wd.part, row]
theorem pds_one (f g c b : Int) : pds [⟨f, g, c⟩] b = [min (max b 0) c * f / 10000] := rfl
theorem ows_one (f g c b : Int) : ows [⟨f, g, c⟩] b = [min (max b 0) c * g / 10000] := rfl
theorem WithholdFlat : paymasterlaw14_WithholdFlat.Pure := by
  intro b f t s c w0 w1 w2 w3 w4
  have B := wf_u16 w0
  have F := wf_u16 w1
  have T := wf_u64 w2
  have S := wf_u64 w3
  have C := wf_u64 w4
  obtain ⟨k, hk⟩ : ∃ k : Nat, 100 ≤ k := ⟨100, Nat.le_refl _⟩
  refine ⟨k, ?_⟩
  unfold paymasterlaw14_WithholdFlat.f
  rw [Int.tmod_eq_emod_of_nonneg B.1, Int.tmod_eq_emod_of_nonneg F.1, Int.tmod_eq_emod_of_nonneg T.1, Int.tmod_eq_emod_of_nonneg S.1, Int.tmod_eq_emod_of_nonneg C.1, w64 (x := b % 10001) (by omega) (by omega), w64 (x := f % 10001) (by omega) (by omega), w64 (x := t % 1099511627776) (by omega) (by omega), w64 (x := s % 1099511627776) (by omega) (by omega), w64 (x := c % 1099511627776) (by omega) (by omega)]
  have r0 : 0 ≤ b % 10001 ∧ b % 10001 ≤ 10000 := by omega
  have f0 : 0 ≤ f % 10001 ∧ f % 10001 ≤ 10000 := by omega
  have t0 : 0 ≤ t % 1099511627776 ∧ t % 1099511627776 ≤ 1099511627776 := by omega
  have s0 : 0 ≤ s % 1099511627776 ∧ s % 1099511627776 ≤ 1099511627776 := by omega
  have c0 : 0 ≤ c % 1099511627776 ∧ c % 1099511627776 ≤ 1099511627776 := by omega
  generalize b % 10001 = r at r0 ⊢
  generalize f % 10001 = q at f0 ⊢
  generalize t % 1099511627776 = x at t0 ⊢
  generalize s % 1099511627776 = y at s0 ⊢
  generalize c % 1099511627776 = z at c0 ⊢
  have sr := sr_one r0.1 r0.2 f0.1 f0.2 f0.1 f0.2 c0.1
  have e1 : (if x ≤ 0 then 0 else x) = x := by split <;> omega
  have e2 : min (max y 0) z = min y z := by omega
  rw [due_yes' sr (by omega) (by unfold Far; omega) (by unfold Far; omega), Option.bind_some]
  simp only [List.length_cons, List.length_nil, Nat.zero_add]
  rw [tx_one, pds_one, ows_one, e1, e2, mn_min]
  have m0 : 0 ≤ x * r := Int.mul_nonneg t0.1 r0.1
  have m1 := Int.mul_le_mul_of_nonneg_left r0.2 t0.1
  have n0 : 0 ≤ min y z * q := Int.mul_nonneg (by omega) f0.1
  have n1 := Int.mul_le_mul_of_nonneg_left f0.2 (show 0 ≤ min y z by omega)
  rw [w64 (x := x * r) (by omega) (by omega), w64 (x := min y z * q) (by omega) (by omega), Int.tdiv_eq_ediv_of_nonneg m0, Int.tdiv_eq_ediv_of_nonneg n0, w64 (x := x * r / 10000) (by omega) (by omega), w64 (x := min y z * q / 10000) (by omega) (by omega)]
  generalize x * r / 10000 = u
  generalize min y z * q / 10000 = v
  rw [awake_eq (by omega)]
  simp [rd]
end Go.Proofs.Ytocaneaofdbpoaa.Pure
