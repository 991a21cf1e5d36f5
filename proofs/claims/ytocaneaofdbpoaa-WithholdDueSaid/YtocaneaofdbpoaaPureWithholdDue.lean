/- Proved here: WithholdDue returns true, for any scheme and any amounts. -/
import Derived.Test.YtocaneaofdbpoaaPAx18
import Derived.Test.YtocaneaofdbpoaaWr
set_option linter.unusedVariables false
namespace Go.Proofs.Ytocaneaofdbpoaa.Pure
open Go.RowKit Go.Proofs.Ytocaneaofdbpoaa.PA Go.Proofs.YtocaneaofdbpoaaW.PrintWords Go.Proofs.YtocaneaofdbpoaaW.PrintLast Go.Proofs.YtocaneaofdbpoaaW.PrintMore
open Go.Proofs.Ytocaneaofdbpoaa.Wd
theorem due_refused {k : Nat} (hk : 400 ≤ k) {e : Int} (he : e ≠ 0) (t b : Int) (l : List S58) (m : List S41) : paymasterlaw14_WithholdDue.j0 k t b e e l m 0 0 0 [] [] = some true := by
  obtain ⟨k, rfl⟩ : ∃ j, k = j + 1 := ⟨k - 1, by omega⟩
  simp only [paymasterlaw14_WithholdDue.j0]
  rw [if_neg he, same_eq (by simp) (by simp) (by omega), Option.bind_some, if_pos rfl, if_pos trivial, awake_eq (by omega)]
  rfl
open Classical in
theorem WithholdDue_f (l : List S58) (m : List S41) (t b : Int) (T : -9223372036854775808 ≤ t ∧ t ≤ 9223372036854775807) (B : -9223372036854775808 ≤ b ∧ b ≤ 9223372036854775807) : ∃ k, paymasterlaw14_WithholdDue.f k l m t b = some true := by
  obtain ⟨k, hk⟩ : ∃ k : Nat, 30000 ≤ k := ⟨30000, Nat.le_refl _⟩
  refine ⟨k, ?_⟩
  unfold paymasterlaw14_WithholdDue.f
  rw [small_eq, Option.bind_some]
  by_cases sm : l.length ≤ 40 ∧ m.length ≤ 40
  · rw [decide_eq_true sm, if_pos rfl]
    by_cases h : SR l m
    · by_cases ft : Far t
      · rw [due_far h (by omega) (Or.inl ft), Option.bind_some, ref_eq l (by omega) (by omega), Option.bind_some, refR_eq (by omega) l sm.2, Option.bind_some, scheme_eq (by omega) (by omega) (by omega) (by omega), Option.bind_some, decide_eq_true h, if_neg (by simp), if_pos rfl, refFar, Option.bind_some, decide_eq_true ft, if_pos rfl]
        exact due_refused (e := 3) (by omega) (by omega) t b l m
      · by_cases fb : Far b
        · rw [due_far h (by omega) (Or.inr fb), Option.bind_some, ref_eq l (by omega) (by omega), Option.bind_some, refR_eq (by omega) l sm.2, Option.bind_some, scheme_eq (by omega) (by omega) (by omega) (by omega), Option.bind_some, decide_eq_true h, if_neg (by simp), if_pos rfl, refFar, Option.bind_some, decide_eq_false ft, if_neg (by simp), refFar, Option.bind_some, decide_eq_true fb, if_pos rfl]
          exact due_refused (e := 3) (by omega) (by omega) t b l m
        · rw [due_yes' h (by omega) ft fb, Option.bind_some, ref_eq l (by omega) (by omega), Option.bind_some, refR_eq (by omega) l sm.2, Option.bind_some, scheme_eq (by omega) (by omega) (by omega) (by omega), Option.bind_some, decide_eq_true h, if_neg (by simp), if_pos rfl, refFar, Option.bind_some, decide_eq_false ft, if_neg (by simp), refFar, Option.bind_some, decide_eq_false fb, if_neg (by simp)]
          obtain ⟨k, rfl⟩ : ∃ j, k = j + 1 := ⟨k - 1, by omega⟩
          simp only [paymasterlaw14_WithholdDue.j0]
          rw [if_pos trivial, ref_eq l (by omega) (by omega), Option.bind_some, refdue_eq h (by omega) T.2 B.2, Option.bind_some, same_eq (by rw [pds_len]; omega) (by rw [ows_len]; omega) (by omega), Option.bind_some, if_pos rfl, if_pos trivial, awake_eq (by omega)]
          rfl
    · rw [due_no h (by omega) (by omega) (by omega) (by omega), Option.bind_some, ref_eq l (by omega) (by omega), Option.bind_some, refR_eq (by omega) l sm.2, Option.bind_some, scheme_eq (by omega) (by omega) (by omega) (by omega), Option.bind_some, decide_eq_false h, if_neg (by simp), if_neg (by simp)]
      exact due_refused (e := 1) (by omega) (by omega) t b l m
  · rw [decide_eq_false sm, if_neg (by simp), awake_eq (by omega)]
    rfl
theorem WithholdDue_walk (A0 : Option Addr) (l : List S58) (c0 : Nat) (A1 : Option Addr) (m : List S41) (c1 : Nat) (t b : Int) (w : World) (h0 : Kd.C k58 w A0 l.length l) (n0 : l.length ≤ c0) (h1 : Kd.C k41 w A1 m.length m) (n1 : m.length ≤ c1)
    (w1 : (Lit.int .i64 t).wf = true) (w2 : (Lit.int .i64 b).wf = true) :
    Calls Try.prog 5 #[.agg #[.slice A0 l.length c0, .slice A1 m.length c1], .int .i64 t, .int .i64 b] w fun e w' => e = .returned (.bool true) ∧ Below w.heap.size w w' := by
  obtain ⟨k, h⟩ := WithholdDue_f l m t b (wf_i64 w1) (wf_i64 w2)
  refine (paymasterlaw14_WithholdDue.calls k A0 c0 l A1 c1 m t b true w h0 n0 h1 n1 h).mono ?_
  rintro e w' ⟨rfl, hd⟩
  exact ⟨rfl, hd⟩
end Go.Proofs.Ytocaneaofdbpoaa.Pure
