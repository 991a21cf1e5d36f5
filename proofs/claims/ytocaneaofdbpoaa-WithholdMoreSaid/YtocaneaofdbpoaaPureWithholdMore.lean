/- Proved here: WithholdMore returns true, for any scheme and any amounts. -/
import Derived.Test.YtocaneaofdbpoaaPAx9
import Derived.Test.YtocaneaofdbpoaaWs
set_option linter.unusedVariables false
namespace Go.Proofs.Ytocaneaofdbpoaa.Pure
open Go.RowKit Go.Proofs.Ytocaneaofdbpoaa.PA Go.Proofs.YtocaneaofdbpoaaW.PrintWords Go.Proofs.YtocaneaofdbpoaaW.PrintLast Go.Proofs.YtocaneaofdbpoaaW.PrintMore
open Go.Proofs.Ytocaneaofdbpoaa.Wd
theorem more_loop {l : List S58} {m : List S41} (h : SR l m) {x x' b b' t t' u u' : Int} (hb : 0 ≤ b) (hbb : b ≤ b') (d : Nat) : ∀ (k n : Nat), n + d = m.length → d + 62 ≤ k →
    paymasterlaw14_WithholdMore.l0 k b (m.length : Int) (n : Int) l m t x u (pds m b) (ows m b) t' x' u' (pds m b') (ows m b') = some true := by
  induction d with
  | zero =>
    intro k n hn hk
    obtain ⟨k, rfl⟩ : ∃ j, k = j + 1 := ⟨k - 1, by omega⟩
    simp only [paymasterlaw14_WithholdMore.l0]
    rw [if_neg (by omega), awake_eq (by omega)]
    rfl
  | succ d ih =>
    intro k n hn hk
    obtain ⟨k, rfl⟩ : ∃ j, k = j + 1 := ⟨k - 1, by omega⟩
    have m6 := h.2.1
    have f := h.2.2 n (by omega)
    have p := pd_bd f b
    have p' := pd_bd f b'
    have pm := pd_mono f hbb
    have om := ow_mono f hbb
    have := ih k (n + 1) (by omega) (by omega)
    rw [show ((n + 1 : Nat) : Int) = (n : Int) + 1 by omega] at this
    simp only [paymasterlaw14_WithholdMore.l0]
    rw [pds_len, pds_len, ows_len, ows_len, pds_rd (by omega), pds_rd (by omega), ows_rd (by omega), ows_rd (by omega), fd_rd, if_pos (by omega), if_pos (by omega), if_pos (by omega), if_neg (by omega), if_neg (by omega), if_pos (by omega), if_neg (by omega), if_pos (by omega), if_pos (by omega), if_neg (by omega), if_pos (by omega), if_neg (by omega), w64 (by omega) (by omega)]
    exact this
open Classical in
theorem WithholdMore_f (l : List S58) (m : List S41) (t b c : Int) (T : 0 ≤ t ∧ t ≤ 18446744073709551615) (B : 0 ≤ b ∧ b ≤ 18446744073709551615) (C : 0 ≤ c ∧ c ≤ 18446744073709551615) : ∃ k, paymasterlaw14_WithholdMore.f k l m t b c = some true := by
  obtain ⟨k, hk⟩ : ∃ k : Nat, 200 ≤ k := ⟨200, Nat.le_refl _⟩
  refine ⟨k, ?_⟩
  unfold paymasterlaw14_WithholdMore.f
  rw [small_eq, Option.bind_some]
  by_cases sm : l.length ≤ 40 ∧ m.length ≤ 40
  · rw [decide_eq_true sm, if_pos rfl]
    rw [Int.tmod_eq_emod_of_nonneg T.1, Int.tmod_eq_emod_of_nonneg B.1, Int.tmod_eq_emod_of_nonneg C.1, w64 (x := t % 281474976710656) (by omega) (by omega), w64 (x := b % 281474976710656) (by omega) (by omega), w64 (x := c % 281474976710656) (by omega) (by omega)]
    have t0 : 0 ≤ t % 281474976710656 ∧ t % 281474976710656 ≤ 281474976710656 := by omega
    have b0 : 0 ≤ b % 281474976710656 ∧ b % 281474976710656 ≤ 281474976710656 := by omega
    have c0 : 0 ≤ c % 281474976710656 ∧ c % 281474976710656 ≤ 281474976710656 := by omega
    generalize t % 281474976710656 = x at t0 ⊢
    generalize b % 281474976710656 = y at b0 ⊢
    generalize c % 281474976710656 = z at c0 ⊢
    rw [w64 (x := x + z) (by omega) (by omega), w64 (x := y + z) (by omega) (by omega)]
    by_cases h : SR l m
    · rw [due_yes' h (by omega) (by unfold Far; omega) (by unfold Far; omega), Option.bind_some, due_yes' h (by omega) (by unfold Far; omega) (by unfold Far; omega), Option.bind_some]
      have b1 := tx_bd h.1 x l.length (Nat.le_refl _)
      have b2 := tx_more h.1 (show x ≤ x + z by omega) l.length (Nat.le_refl _)
      rw [cov_top] at b1
      have lp := more_loop h (x := y) (x' := y + z) (t := x) (t' := x + z) (u := tx l x l.length) (u' := tx l (x + z) l.length) b0.1 (show y ≤ y + z by omega) m.length
      obtain ⟨k, rfl⟩ : ∃ j, k = j + 2 := ⟨k - 2, by omega⟩
      have m6 := h.2.1
      have lp' := lp k 0 (by omega) (by omega)
      show (if (0 : Int) = 0 then _ else _) = _
      rw [if_pos rfl]
      simp only [paymasterlaw14_WithholdMore.j0]
      rw [if_neg (by simp), if_neg (by omega), if_neg (by omega), if_neg (by omega), pds_len, pds_len, ows_len, ows_len, if_pos rfl, if_pos rfl, if_pos rfl]
      simp only [paymasterlaw14_WithholdMore.j1]
      rw [if_neg (by simp), pds_len]
      exact lp'
    · rw [due_no h (by omega) (by omega) (by omega) (by omega), Option.bind_some, due_no h (by omega) (by omega) (by omega) (by omega), Option.bind_some]
      obtain ⟨k, rfl⟩ : ∃ j, k = j + 1 := ⟨k - 1, by omega⟩
      show (if (1 : Int) = 0 then _ else _) = _
      rw [if_neg (by omega)]
      simp only [paymasterlaw14_WithholdMore.j0]
      rw [if_pos trivial, if_pos trivial, awake_eq (by omega)]
      rfl
  · rw [decide_eq_false sm, if_neg (by simp), awake_eq (by omega)]
    rfl
theorem WithholdMore_walk (A0 : Option Addr) (l : List S58) (c0 : Nat) (A1 : Option Addr) (m : List S41) (c1 : Nat) (t b c : Int) (w : World) (h0 : Kd.C k58 w A0 l.length l) (n0 : l.length ≤ c0) (h1 : Kd.C k41 w A1 m.length m) (n1 : m.length ≤ c1)
    (w1 : (Lit.int .u64 t).wf = true) (w2 : (Lit.int .u64 b).wf = true) (w3 : (Lit.int .u64 c).wf = true) :
    Calls Try.prog 4 #[.agg #[.slice A0 l.length c0, .slice A1 m.length c1], .int .u64 t, .int .u64 b, .int .u64 c] w fun e w' => e = .returned (.bool true) ∧ Below w.heap.size w w' := by
  obtain ⟨k, h⟩ := WithholdMore_f l m t b c (wf_u64 w1) (wf_u64 w2) (wf_u64 w3)
  refine (paymasterlaw14_WithholdMore.calls k A0 c0 l A1 c1 m t b c true w h0 n0 h1 n1 h).mono ?_
  rintro e w' ⟨rfl, hd⟩
  exact ⟨rfl, hd⟩
end Go.Proofs.Ytocaneaofdbpoaa.Pure
