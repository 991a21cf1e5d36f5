/- Proved here: DatesOrder as the print tells it, over numbers alone, for any two numbers of 32 bits. -/
import Derived.Test.YtkfhclichfjhmaaPAx5
import Derived.Test.YtkfhclichfjhmaaDt
namespace Go.Proofs.Ytkfhclichfjhmaa.Pure
open Go.RowKit Go.Proofs.Ytkfhclichfjhmaa.PA Go.Proofs.YtkfhclichfjhmaaW.PrintWords Go.Proofs.YtkfhclichfjhmaaW.PrintLast
open Go.Proofs.Ytkfhclichfjhmaa.Dt

theorem order_keys {y m d y' m' d' : Int} (h1 : 1 ≤ d) (h2 : d ≤ len y m) (h1' : 1 ≤ d') (h2' : d' ≤ len y' m') :
    (num y m d < num y' m' d' ↔ 10000 * y + 100 * m + d < 10000 * y' + 100 * m' + d') ∧ (num y m d = num y' m' d' ↔ 10000 * y + 100 * m + d = 10000 * y' + 100 * m' + d') := by
  obtain ⟨a, b, c, e, f⟩ := len_in h1 h2
  obtain ⟨a', b', c', e', f'⟩ := len_in h1' h2'
  rcases lex_three y m d y' m' d' with l | l | ⟨rfl, rfl, rfl⟩
  · have := num_lt h1 h2 h1' h2' l
    unfold lex at l
    omega
  · have := num_lt h1' h2' h1 h2 l
    unfold lex at l
    omega
  · omega

theorem DatesOrder : paymasterlaw06_DatesOrder.Pure := by
  intro a0 a1 w0 w1
  have b0 : 0 ≤ a0 := (wf_u32 w0).1
  have b1 : 0 ≤ a1 := (wf_u32 w1).1
  refine ⟨1200, ?_⟩
  unfold paymasterlaw06_DatesOrder.f
  rw [tm b0, tm b1, w64 (x := a0 % 262144) (by omega) (by omega), w64 (x := a1 % 262144) (by omega) (by omega)]
  obtain ⟨y, m, d, r, h1, h2, e⟩ := of_yes (k := 1200) (by omega) (n := a0 % 262144) (by omega) (by omega)
  obtain ⟨y', m', d', r', h1', h2', e'⟩ := of_yes (k := 1200) (by omega) (n := a1 % 262144) (by omega) (by omega)
  obtain ⟨a, b, c, f, g⟩ := len_in h1 h2
  obtain ⟨a', b', c', f', g'⟩ := len_in h1' h2'
  have k := order_keys h1 h2 h1' h2'
  rw [e, e'] at k
  rw [r, r', awake_eq (by omega)]
  simp (disch := omega) only [Option.bind_some, w64]
  simp only [k.1, if_true, beq_self_eq_true]
  by_cases q : a0 % 262144 = a1 % 262144
  · have q' := k.2.1 q
    rw [q, q']
    simp
  · have q' : ¬ _ := fun z => q (k.2.2 z)
    rw [beq_eq_false_iff_ne.2 q, beq_eq_false_iff_ne.2 q']
    rfl
end Go.Proofs.Ytkfhclichfjhmaa.Pure
