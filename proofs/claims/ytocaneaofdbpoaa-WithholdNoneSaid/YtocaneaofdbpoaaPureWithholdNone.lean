/- Proved here: WithholdNone returns true, for any scheme and any amounts. -/
import Derived.Test.YtocaneaofdbpoaaPNone
import Derived.Test.YtocaneaofdbpoaaSm
import Derived.Test.YtocaneaofdbpoaaWm2
set_option linter.unusedVariables false
namespace Go.Proofs.Ytocaneaofdbpoaa.Pure
open Go.RowKit Go.Proofs.Ytocaneaofdbpoaa.PA Go.Proofs.YtocaneaofdbpoaaW.PrintWords Go.Proofs.YtocaneaofdbpoaaW.PrintLast Go.Proofs.YtocaneaofdbpoaaW.PrintMore
open Go.Proofs.Ytocaneaofdbpoaa.Wd
theorem none_loop {L : List Int} (hL : Nul L) (hl : L.length ≤ 1000) {t b x : Int} {P O : List Int} (hP : P.length ≤ 100) (hO : O.length ≤ 100) (d : Nat) : ∀ (k n : Nat), n + d = L.length → d + 401 ≤ k →
    paymasterlaw14_WithholdNone.l0 k L (L.length : Int) (n : Int) t b x P O t b x P O = some true := by
  induction d with
  | zero =>
    intro k n hn hk
    obtain ⟨k, rfl⟩ : ∃ j, k = j + 1 := ⟨k - 1, by omega⟩
    simp only [paymasterlaw14_WithholdNone.l0]
    rw [if_neg (by omega), same_eq hP hO (by omega), Option.bind_some, if_pos rfl, awake_eq (by omega)]
    rfl
  | succ d ih =>
    intro k n hn hk
    obtain ⟨k, rfl⟩ : ∃ j, k = j + 1 := ⟨k - 1, by omega⟩
    simp only [paymasterlaw14_WithholdNone.l0]
    rw [if_pos (by omega), if_pos (by omega), if_pos (by omega), if_pos (nul_rd hL (by omega)), w64 (by omega) (by omega)]
    have := ih k (n + 1) (by omega) (by omega)
    rwa [show ((n + 1 : Nat) : Int) = (n : Int) + 1 by omega] at this
theorem none_tail {k : Nat} (hk : 1000 ≤ k) {p o p' o' : List Int} (h1 : Nul p) (h2 : Nul o) (h3 : Nul p') (h4 : Nul o') (l1 : p.length ≤ 100) (l2 : o.length ≤ 100) (l3 : p'.length ≤ 100) (l4 : o'.length ≤ 100)
    {t b x : Int} {P O : List Int} (hP : P.length ≤ 100) (hO : O.length ≤ 100) (s1 s2 s3 s4 s5 s6 : Int) :
    paymasterlaw14_WithholdNone.j0 k false t b x P O t b x P O s1 s2 s3 p o s4 s5 s6 p' o' = some true := by
  obtain ⟨k, rfl⟩ : ∃ j, k = j + 1 := ⟨k - 1, by omega⟩
  have N := nul_app (nul_app (nul_app (show Nul [] from fun x hx => by cases hx) h1) h2) (nul_app (nul_app (show Nul [] from fun x hx => by cases hx) h3) h4)
  simp only [paymasterlaw14_WithholdNone.j0]
  rw [if_neg (by simp), Option.bind_some, if_pos (by simp; omega), Option.bind_some, if_pos (by simp; omega), Option.bind_some, Option.bind_some, if_pos (by simp; omega), Option.bind_some, if_pos (by simp; omega), Option.bind_some, if_pos (by simp; omega), Option.bind_some]
  exact none_loop N (by simp; omega) hP hO _ k 0 (Nat.zero_add _) (by simp; omega)
open Classical in
theorem WithholdNone_f (l : List S58) (m : List S41) (t b : Int) (T : -9223372036854775808 ≤ t ∧ t ≤ 9223372036854775807) (B : -9223372036854775808 ≤ b ∧ b ≤ 9223372036854775807) : ∃ k, paymasterlaw14_WithholdNone.f k l m t b = some true := by
  obtain ⟨k, hk⟩ : ∃ k : Nat, 3000 ≤ k := ⟨3000, Nat.le_refl _⟩
  refine ⟨k, ?_⟩
  unfold paymasterlaw14_WithholdNone.f
  rw [small_eq, Option.bind_some]
  by_cases sm : l.length ≤ 40 ∧ m.length ≤ 40
  · rw [decide_eq_true sm, if_pos rfl]
    have t0 : -1099511627776 < Int.tmod t 1099511627776 ∧ Int.tmod t 1099511627776 < 1099511627776 := tmod_bd t
    have b0 : -1099511627776 < Int.tmod b 1099511627776 ∧ Int.tmod b 1099511627776 < 1099511627776 := tmod_bd b
    generalize Int.tmod t 1099511627776 = x at t0 ⊢
    generalize Int.tmod b 1099511627776 = y at b0 ⊢
    have n : ∀ a : Int, -1099511627776 ≤ a → a ≤ 1099511627776 → ¬ Far a := fun a h1 h2 => by unfold Far; omega
    by_cases h : SR l m
    · have m6 := h.2.1
      have tb := tx_bd h.1 x l.length (Nat.le_refl _)
      rw [cov_top] at tb
      have f0 : Fit m [] [] := ⟨Or.inl rfl, Or.inl rfl⟩
      have f1 : Fit m (pds m y) (ows m y) := ⟨Or.inr (pds_len m y), Or.inr (ows_len m y)⟩
      have s1 : withhold_Step.f k l m 0 0 0 [] [] x y = some (x, y, tx l x l.length, pds m y, ows m y, x, y, wrap64 (tx l x l.length - 0), lss (pds m y) [], lss (ows m y) [], 0) := by
        rw [step_yes h (by omega) (n _ (by omega) (by omega)) (n _ (by omega) (by omega)) (n _ (by omega) (by omega)) (n _ (by omega) (by omega)) (n _ (by omega) (by omega)) (n _ (by omega) (by omega)), if_pos f0, Int.zero_add, Int.zero_add]
      have s2 : withhold_Step.f k l m x y (tx l x l.length) (pds m y) (ows m y) 0 0 = some (x, y, tx l x l.length, pds m y, ows m y, 0, 0, 0, lss (pds m y) (pds m y), lss (ows m y) (ows m y), 0) := by
        rw [step_yes h (by omega) (n _ (by omega) (by omega)) (n _ (by omega) (by omega)) (n _ (by omega) (by omega)) (n _ (by omega) (by omega)) (n _ (by omega) (by omega)) (n _ (by omega) (by omega)), if_pos f1, Int.add_zero, Int.add_zero, Int.sub_self, w64 (x := 0) (by omega) (by omega)]
      have s3 : withhold_Step.f k l m x y (tx l x l.length) (pds m y) (ows m y) (-x) (-y) = some (0, 0, 0, pds m 0, ows m 0, -x, -y, wrap64 (0 - tx l x l.length), lss (pds m 0) (pds m y), lss (ows m 0) (ows m y), 0) := by
        rw [step_yes h (by omega) (n _ (by omega) (by omega)) (n _ (by omega) (by omega)) (n _ (by omega) (by omega)) (n _ (by omega) (by omega)) (n _ (by omega) (by omega)) (n _ (by omega) (by omega)), if_pos f1, Int.add_right_neg, Int.add_right_neg, tx_zero h.1]
      rw [s1, Option.bind_some, w64 (x := -x) (by omega) (by omega), w64 (x := -y) (by omega) (by omega)]
      dsimp only
      rw [if_pos rfl, s2, Option.bind_some, s3, Option.bind_some]
      dsimp only
      rw [if_pos rfl, if_pos rfl, if_pos rfl, if_pos rfl, if_pos rfl, bne_self_eq_false]
      exact none_tail (by omega) (lss_self _) (lss_self _) (pds_zero h) (ows_zero h) (by simp [lss, pds_len]; omega) (by simp [lss, ows_len]; omega) (by rw [pds_len]; omega) (by rw [ows_len]; omega) (by rw [pds_len]; omega) (by rw [ows_len]; omega) _ _ _ _ _ _
    · rw [step_no h (by omega) (by omega) (by omega) (by omega), Option.bind_some]
      dsimp only
      rw [if_neg (by omega), if_pos rfl, scheme_eq (by omega) (by omega) (by omega) (by omega), decide_eq_false h, Option.bind_some, if_neg (by simp), awake_eq (by omega)]
      rfl
  · rw [decide_eq_false sm, if_neg (by simp), awake_eq (by omega)]
    rfl
theorem WithholdNone_walk (A0 : Option Addr) (l : List S58) (c0 : Nat) (A1 : Option Addr) (m : List S41) (c1 : Nat) (t b : Int) (w : World) (h0 : Kd.C k58 w A0 l.length l) (n0 : l.length ≤ c0) (h1 : Kd.C k41 w A1 m.length m) (n1 : m.length ≤ c1)
    (w1 : (Lit.int .i64 t).wf = true) (w2 : (Lit.int .i64 b).wf = true) :
    Calls Try.prog 3 #[.agg #[.slice A0 l.length c0, .slice A1 m.length c1], .int .i64 t, .int .i64 b] w fun e w' => e = .returned (.bool true) ∧ Below w.heap.size w w' := by
  obtain ⟨k, h⟩ := WithholdNone_f l m t b (wf_i64 w1) (wf_i64 w2)
  refine (paymasterlaw14_WithholdNone.calls k A0 c0 l A1 c1 m t b true w h0 n0 h1 n1 h).mono ?_
  rintro e w' ⟨rfl, hd⟩
  exact ⟨rfl, hd⟩
end Go.Proofs.Ytocaneaofdbpoaa.Pure
