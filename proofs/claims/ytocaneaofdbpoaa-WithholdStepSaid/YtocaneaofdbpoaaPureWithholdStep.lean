/- Proved here: WithholdStep returns true, for any scheme, any year and any amounts. -/
import Derived.Test.YtocaneaofdbpoaaPStep
import Derived.Test.YtocaneaofdbpoaaWr
import Derived.Test.YtocaneaofdbpoaaWy
set_option linter.unusedVariables false
namespace Go.Proofs.Ytocaneaofdbpoaa.Pure
open Go.RowKit Go.Proofs.Ytocaneaofdbpoaa.PA Go.Proofs.YtocaneaofdbpoaaW.PrintWords Go.Proofs.YtocaneaofdbpoaaW.PrintLast Go.Proofs.YtocaneaofdbpoaaW.PrintMore
open Go.Proofs.Ytocaneaofdbpoaa.Wd
theorem refless_l1 {a c : List Int} {t b x t0 b0 x0 : Int} {P P0 o1 : List Int} {y1 y2 y3 : Int} (ha : a.length ≤ 1000) (hc : c.length = 0 ∨ a.length ≤ c.length) (d : Nat) : ∀ (k n : Nat) (o : List Int), n + d = a.length → d + 1 ≤ k → o = (List.range n).map (ls a c) →
    paymasterref14_Less.l1 k (n : Int) t b x P a t0 b0 x0 P0 c y1 y2 y3 o1 o = some (y1, y2, y3, o1, lss a c) := by
  induction d with
  | zero =>
    intro k n o hn hk ho
    obtain ⟨k, rfl⟩ : ∃ j, k = j + 1 := ⟨k - 1, by omega⟩
    simp only [paymasterref14_Less.l1]
    rw [if_neg (by omega), ho, lss, show n = a.length by omega]
  | succ d ih =>
    intro k n o hn hk ho
    obtain ⟨k, rfl⟩ : ∃ j, k = j + 1 := ⟨k - 1, by omega⟩
    have ol : o.length = n := by rw [ho]; simp
    have := ih k (n + 1) (o ++ [ls a c n]) (by omega) (by omega) (by rw [ho, List.range_succ, List.map_append]; rfl)
    rw [show ((n + 1 : Nat) : Int) = (n : Int) + 1 by omega] at this
    simp only [paymasterref14_Less.l1]
    rw [if_pos (by omega), if_pos (by omega), w64 (x := (n : Int) + 1) (by omega) (by omega)]
    unfold ls at this
    by_cases h : 0 < c.length
    · rw [if_pos (by omega), if_pos (by omega)]
      rw [if_pos h] at this
      exact this
    · rw [if_neg (by omega), if_pos (by omega)]
      rw [if_neg h] at this
      exact this
theorem refless_l0 {a c : List Int} {t b x t0 b0 x0 : Int} {O O0 : List Int} {y1 y2 y3 : Int} (ha : a.length ≤ 1000) (hc : c.length = 0 ∨ a.length ≤ c.length) (hO : O.length ≤ 1000) (hO0 : O0.length = 0 ∨ O.length ≤ O0.length) (d : Nat) : ∀ (k n : Nat) (o : List Int), n + d = a.length → d + O.length + 2 ≤ k → o = (List.range n).map (ls a c) →
    paymasterref14_Less.l0 k (n : Int) t b x a O t0 b0 x0 c O0 y1 y2 y3 o = some (y1, y2, y3, lss a c, lss O O0) := by
  induction d with
  | zero =>
    intro k n o hn hk ho
    obtain ⟨k, rfl⟩ : ∃ j, k = j + 1 := ⟨k - 1, by omega⟩
    simp only [paymasterref14_Less.l0]
    rw [if_neg (by omega)]
    have := refless_l1 (a := O) (c := O0) (t := t) (b := b) (x := x) (t0 := t0) (b0 := b0) (x0 := x0) (P := a) (P0 := c) (o1 := o) (y1 := y1) (y2 := y2) (y3 := y3) hO hO0 O.length k 0 [] (by omega) (by omega) rfl
    rw [show ((0 : Nat) : Int) = 0 from rfl] at this
    rw [this, ho, lss, show n = a.length by omega]
    rfl
  | succ d ih =>
    intro k n o hn hk ho
    obtain ⟨k, rfl⟩ : ∃ j, k = j + 1 := ⟨k - 1, by omega⟩
    have ol : o.length = n := by rw [ho]; simp
    have := ih k (n + 1) (o ++ [ls a c n]) (by omega) (by omega) (by rw [ho, List.range_succ, List.map_append]; rfl)
    rw [show ((n + 1 : Nat) : Int) = (n : Int) + 1 by omega] at this
    simp only [paymasterref14_Less.l0]
    rw [if_pos (by omega), if_pos (by omega), w64 (x := (n : Int) + 1) (by omega) (by omega)]
    unfold ls at this
    by_cases h : 0 < c.length
    · rw [if_pos (by omega), if_pos (by omega)]
      rw [if_pos h] at this
      exact this
    · rw [if_neg (by omega), if_pos (by omega)]
      rw [if_neg h] at this
      exact this
theorem refless_eq {k : Nat} {P O P0 O0 : List Int} (h1 : P.length ≤ 100) (h2 : P0.length = 0 ∨ P.length ≤ P0.length) (h3 : O.length ≤ 100) (h4 : O0.length = 0 ∨ O.length ≤ O0.length) (hk : 300 ≤ k) (t b x t0 b0 x0 : Int) :
    paymasterref14_Less.f k t b x P O t0 b0 x0 P0 O0 = some (wrap64 (t - t0), wrap64 (b - b0), wrap64 (x - x0), lss P P0, lss O O0) := by
  unfold paymasterref14_Less.f
  exact refless_l0 (by omega) h2 (by omega) h4 P.length k 0 [] (by omega) (by omega) rfl
theorem step_refused {k : Nat} (hk : 400 ≤ k) {e : Int} (he : e ≠ 0) (t b : Int) (l : List S58) (m : List S41) (t0 b0 x0 : Int) (P O : List Int) : paymasterlaw14_WithholdStep.j3 k t b e e l m t0 b0 x0 P O 0 0 0 [] [] 0 0 0 [] [] = some true := by
  obtain ⟨k, rfl⟩ : ∃ j, k = j + 1 := ⟨k - 1, by omega⟩
  simp only [paymasterlaw14_WithholdStep.j3]
  rw [if_neg he, same_eq (by simp) (by simp) (by omega), Option.bind_some, if_pos rfl, Option.bind_some, if_pos rfl, if_pos trivial, awake_eq (by omega)]
  rfl
theorem step_far2 {k : Nat} (hk : 401 ≤ k) (t b : Int) (l : List S58) (m : List S41) (t0 b0 x0 : Int) (P O : List Int) : paymasterlaw14_WithholdStep.j2 k t b 3 0 (m.length : Int) true l m t0 b0 x0 P O 0 0 0 [] [] 0 0 0 [] [] = some true := by
  obtain ⟨k, rfl⟩ : ∃ j, k = j + 1 := ⟨k - 1, by omega⟩
  simp only [paymasterlaw14_WithholdStep.j2]
  rw [if_pos trivial]
  exact step_refused (e := 3) (by omega) (by omega) t b l m t0 b0 x0 P O
open Classical in
/-- What the law does behind its loop is true. -/
theorem step_fin {l : List S58} {m : List S41} (l40 : l.length ≤ 40) (m40 : m.length ≤ 40) {t0 b0 x0 t b : Int} {P O : List Int} (L : List Int)
    (w1 : -9223372036854775808 ≤ t0 ∧ t0 ≤ 9223372036854775807) (w2 : -9223372036854775808 ≤ t ∧ t ≤ 9223372036854775807) (w3 : -9223372036854775808 ≤ b0 ∧ b0 ≤ 9223372036854775807) (w4 : -9223372036854775808 ≤ b ∧ b ≤ 9223372036854775807) {k : Nat} (hk : 30000 ≤ k) :
    paymasterlaw14_WithholdStep.l0 (k + 1) t b L (L.length : Int) (L.length : Int) l m t0 b0 x0 P O = some true := by
  simp only [paymasterlaw14_WithholdStep.l0]
  rw [if_neg (by omega)]
  by_cases h : SR l m
  · have m6 := h.2.1
    have rR := refR_eq (k := k) (by omega) l m40
    rw [decide_eq_true h] at rR
    by_cases f1 : Far t0
    · rw [step_far h (by omega) (Or.inl f1), Option.bind_some, ref_eq l (by omega) (by omega), Option.bind_some, rR, Option.bind_some, if_pos rfl, refFar, Option.bind_some, decide_eq_true f1, if_pos rfl]
      exact step_far2 (by omega) t b l m t0 b0 x0 P O
    by_cases f2 : Far t
    · rw [step_far h (by omega) (Or.inr (Or.inl f2)), Option.bind_some, ref_eq l (by omega) (by omega), Option.bind_some, rR, Option.bind_some, if_pos rfl, refFar, Option.bind_some, decide_eq_false f1, if_neg (by simp), refFar, Option.bind_some, decide_eq_true f2, if_pos rfl]
      exact step_far2 (by omega) t b l m t0 b0 x0 P O
    by_cases f3 : Far b0
    · rw [step_far h (by omega) (Or.inr (Or.inr (Or.inl f3))), Option.bind_some, ref_eq l (by omega) (by omega), Option.bind_some, rR, Option.bind_some, if_pos rfl, refFar, Option.bind_some, decide_eq_false f1, if_neg (by simp), refFar, Option.bind_some, decide_eq_false f2, if_neg (by simp), refFar, Option.bind_some, decide_eq_true f3, if_pos rfl]
      exact step_far2 (by omega) t b l m t0 b0 x0 P O
    by_cases f4 : Far b
    · rw [step_far h (by omega) (Or.inr (Or.inr (Or.inr f4))), Option.bind_some, ref_eq l (by omega) (by omega), Option.bind_some, rR, Option.bind_some, if_pos rfl, refFar, Option.bind_some, decide_eq_false f1, if_neg (by simp), refFar, Option.bind_some, decide_eq_false f2, if_neg (by simp), refFar, Option.bind_some, decide_eq_false f3, if_neg (by simp), refFar, Option.bind_some, decide_eq_true f4, if_pos rfl]
      exact step_far2 (by omega) t b l m t0 b0 x0 P O
    have g1 := f1
    have g2 := f2
    have g3 := f3
    have g4 := f4
    unfold Far at g1 g2 g3 g4
    rw [w64 (x := t0 + t) (by omega) (by omega), w64 (x := b0 + b) (by omega) (by omega)]
    by_cases f5 : Far (t0 + t)
    · rw [step_over h (by omega) f1 f2 f3 f4 (Or.inl f5), Option.bind_some, ref_eq l (by omega) (by omega), Option.bind_some, rR, Option.bind_some, if_pos rfl, refFar, Option.bind_some, decide_eq_false f1, if_neg (by simp), refFar, Option.bind_some, decide_eq_false f2, if_neg (by simp), refFar, Option.bind_some, decide_eq_false f3, if_neg (by simp), refFar, Option.bind_some, decide_eq_false f4, if_neg (by simp), refFar, Option.bind_some, decide_eq_true f5, if_pos rfl]
      exact step_far2 (by omega) t b l m t0 b0 x0 P O
    by_cases f6 : Far (b0 + b)
    · rw [step_over h (by omega) f1 f2 f3 f4 (Or.inr f6), Option.bind_some, ref_eq l (by omega) (by omega), Option.bind_some, rR, Option.bind_some, if_pos rfl, refFar, Option.bind_some, decide_eq_false f1, if_neg (by simp), refFar, Option.bind_some, decide_eq_false f2, if_neg (by simp), refFar, Option.bind_some, decide_eq_false f3, if_neg (by simp), refFar, Option.bind_some, decide_eq_false f4, if_neg (by simp), refFar, Option.bind_some, decide_eq_false f5, if_neg (by simp), refFar, Option.bind_some, decide_eq_true f6]
      exact step_far2 (by omega) t b l m t0 b0 x0 P O
    rw [step_yes h (by omega) f1 f2 f3 f4 f5 f6, Option.bind_some, ref_eq l (by omega) (by omega), Option.bind_some, rR, Option.bind_some, if_pos rfl, refFar, Option.bind_some, decide_eq_false f1, if_neg (by simp), refFar, Option.bind_some, decide_eq_false f2, if_neg (by simp), refFar, Option.bind_some, decide_eq_false f3, if_neg (by simp), refFar, Option.bind_some, decide_eq_false f4, if_neg (by simp), refFar, Option.bind_some, decide_eq_false f5, if_neg (by simp), refFar, Option.bind_some, decide_eq_false f6]
    obtain ⟨k, rfl⟩ : ∃ j, k = j + 1 := ⟨k - 1, by omega⟩
    by_cases hf : Fit m P O
    · rw [if_pos hf]
      have fin : paymasterlaw14_WithholdStep.j3 k t b 0 0 l m t0 b0 x0 P O (t0 + t) (b0 + b) (tx l (t0 + t) l.length) (pds m (b0 + b)) (ows m (b0 + b)) t b (wrap64 (tx l (t0 + t) l.length - x0)) (lss (pds m (b0 + b)) P) (lss (ows m (b0 + b)) O) = some true := by
        obtain ⟨k, rfl⟩ : ∃ j, k = j + 1 := ⟨k - 1, by omega⟩
        obtain ⟨hp, ho⟩ := hf
        simp only [paymasterlaw14_WithholdStep.j3]
        rw [if_pos trivial, ref_eq l (by omega) (by omega), Option.bind_some]
        dsimp only
        rw [w64 (x := t0 + t) (by omega) (by omega), w64 (x := b0 + b) (by omega) (by omega), refdue_eq h (by omega) (by omega) (by omega), Option.bind_some]
        dsimp only
        rw [same_eq (by rw [pds_len]; omega) (by rw [ows_len]; omega) (by omega), Option.bind_some, if_pos rfl, refless_eq (by rw [pds_len]; omega) (by rw [pds_len]; omega) (by rw [ows_len]; omega) (by rw [ows_len]; omega) (by omega), Option.bind_some]
        dsimp only
        rw [show t0 + t - t0 = t by omega, show b0 + b - b0 = b by omega, w64 (x := t) (by omega) (by omega), w64 (x := b) (by omega) (by omega), same_eq (by simp [lss, pds_len]; omega) (by simp [lss, ows_len]; omega) (by omega), Option.bind_some, if_pos rfl, if_pos trivial, awake_eq (by omega)]
        rfl
      obtain ⟨hp, ho⟩ := hf
      simp only [paymasterlaw14_WithholdStep.j2]
      rw [if_neg (by simp)]
      by_cases p0 : (P.length : Int) = 0
      · rw [if_pos p0]
        by_cases o0 : (O.length : Int) = 0
        · rw [if_pos o0]; exact fin
        · rw [if_neg o0, if_pos (by omega)]; exact fin
      · rw [if_neg p0, if_pos (by omega)]
        by_cases o0 : (O.length : Int) = 0
        · rw [if_pos o0]; exact fin
        · rw [if_neg o0, if_pos (by omega)]; exact fin
    · rw [if_neg hf]
      have fin := step_refused (k := k) (by omega) (e := 1) (by omega) t b l m t0 b0 x0 P O
      unfold Fit at hf
      simp only [paymasterlaw14_WithholdStep.j2]
      rw [if_neg (by simp)]
      by_cases p0 : (P.length : Int) = 0
      · rw [if_pos p0, if_neg (by omega), if_neg (by omega)]; exact fin
      · rw [if_neg p0]
        by_cases p1 : (P.length : Int) = (m.length : Int)
        · rw [if_pos p1, if_neg (by omega), if_neg (by omega)]; exact fin
        · rw [if_neg p1]; exact fin
  · have rR := refR_eq (k := k) (by omega) l m40
    rw [decide_eq_false h] at rR
    rw [step_no h (by omega) (by omega) (by omega) (by omega), Option.bind_some, ref_eq l (by omega) (by omega), Option.bind_some, rR, Option.bind_some, if_neg (by simp)]
    exact step_refused (e := 1) (by omega) (by omega) t b l m t0 b0 x0 P O
theorem step_loop {l : List S58} {m : List S41} (l40 : l.length ≤ 40) (m40 : m.length ≤ 40) {t0 b0 x0 t b : Int} {P O : List Int} {L : List Int} (hL : L.length ≤ 1000)
    (w1 : -9223372036854775808 ≤ t0 ∧ t0 ≤ 9223372036854775807) (w2 : -9223372036854775808 ≤ t ∧ t ≤ 9223372036854775807) (w3 : -9223372036854775808 ≤ b0 ∧ b0 ≤ 9223372036854775807) (w4 : -9223372036854775808 ≤ b ∧ b ≤ 9223372036854775807) (d : Nat) : ∀ (k n : Nat), n + d = L.length → d + 30001 ≤ k →
    paymasterlaw14_WithholdStep.l0 k t b L (L.length : Int) (n : Int) l m t0 b0 x0 P O = some true := by
  induction d with
  | zero =>
    intro k n hn hk
    obtain ⟨k, rfl⟩ : ∃ j, k = j + 1 := ⟨k - 1, by omega⟩
    obtain rfl : n = L.length := by omega
    exact step_fin l40 m40 L w1 w2 w3 w4 (by omega)
  | succ d ih =>
    intro k n hn hk
    obtain ⟨k, rfl⟩ : ∃ j, k = j + 1 := ⟨k - 1, by omega⟩
    have := ih k (n + 1) (by omega) (by omega)
    rw [show ((n + 1 : Nat) : Int) = (n : Int) + 1 by omega] at this
    simp only [paymasterlaw14_WithholdStep.l0]
    rw [if_pos (by omega), if_pos (by omega), if_pos (by omega)]
    by_cases c : rd L (n : Int) > 1152921504606846976
    · rw [if_pos c, awake_eq (by omega)]
      rfl
    rw [if_neg c]
    by_cases e : rd L (n : Int) < -1152921504606846976
    · rw [if_pos e, awake_eq (by omega)]
      rfl
    rw [if_neg e, w64 (by omega) (by omega)]
    exact this
theorem WithholdStep_f (l : List S58) (m : List S41) (t0 b0 x0 : Int) (P O : List Int) (t b : Int)
    (w1 : -9223372036854775808 ≤ t0 ∧ t0 ≤ 9223372036854775807) (w3 : -9223372036854775808 ≤ b0 ∧ b0 ≤ 9223372036854775807) (w2 : -9223372036854775808 ≤ t ∧ t ≤ 9223372036854775807) (w4 : -9223372036854775808 ≤ b ∧ b ≤ 9223372036854775807) : ∃ k, paymasterlaw14_WithholdStep.f k l m t0 b0 x0 P O t b = some true := by
  obtain ⟨k, hk⟩ : ∃ k : Nat, 40000 ≤ k := ⟨40000, Nat.le_refl _⟩
  refine ⟨k, ?_⟩
  obtain ⟨k, rfl⟩ : ∃ j, k = j + 1 := ⟨k - 1, by omega⟩
  have no : paymasterlaw14_WithholdStep.j0 (k + 1) t b true l m t0 b0 x0 P O = some true := by
    simp only [paymasterlaw14_WithholdStep.j0]
    rw [if_pos trivial, awake_eq (by omega)]
    rfl
  unfold paymasterlaw14_WithholdStep.f
  rw [small_eq, Option.bind_some]
  by_cases sm : l.length ≤ 40 ∧ m.length ≤ 40
  · rw [decide_eq_true sm, if_pos rfl]
    by_cases lp : (P.length : Int) > 60
    · rw [if_pos lp, no]
    rw [if_neg lp]
    by_cases lo : (O.length : Int) > 60
    · rw [decide_eq_true lo, no]
    rw [decide_eq_false lo]
    simp only [paymasterlaw14_WithholdStep.j0]
    rw [if_neg (by simp), Option.bind_some, if_pos (by simp; omega), Option.bind_some, if_pos (by simp; omega), Option.bind_some]
    exact step_loop sm.1 sm.2 (by simp; omega) w1 w2 w3 w4 _ k 0 (Nat.zero_add _) (by simp; omega)
  · rw [decide_eq_false sm, if_neg (by simp), no]
theorem WithholdStep_walk (A0 : Option Addr) (l : List S58) (c0 : Nat) (A1 : Option Addr) (m : List S41) (c1 : Nat) (t0 b0 x0 : Int) (A2 : Option Addr) (P : List Int) (c2 : Nat) (A3 : Option Addr) (O : List Int) (c3 : Nat) (t b : Int) (w : World) (h0 : Kd.C k58 w A0 l.length l) (n0 : l.length ≤ c0) (h1 : Kd.C k41 w A1 m.length m) (n1 : m.length ≤ c1)
    (w0 : (Lit.int .i64 t0).wf = true) (w1 : (Lit.int .i64 b0).wf = true) (w2 : (Lit.int .i64 x0).wf = true) (h2 : Kd.C (Kd.int .i64) w A2 P.length P) (n2 : P.length ≤ c2) (h3 : Kd.C (Kd.int .i64) w A3 O.length O) (n3 : O.length ≤ c3) (w3 : (Lit.int .i64 t).wf = true) (w4 : (Lit.int .i64 b).wf = true) :
    Calls Try.prog 6 #[.agg #[.slice A0 l.length c0, .slice A1 m.length c1], .agg #[.int .i64 t0, .int .i64 b0, .int .i64 x0, .slice A2 P.length c2, .slice A3 O.length c3], .int .i64 t, .int .i64 b] w fun e w' => e = .returned (.bool true) ∧ Below w.heap.size w w' := by
  obtain ⟨k, h⟩ := WithholdStep_f l m t0 b0 x0 P O t b (wf_i64 w0) (wf_i64 w1) (wf_i64 w3) (wf_i64 w4)
  refine (paymasterlaw14_WithholdStep.calls k A0 c0 l A1 c1 m t0 b0 x0 A2 c2 P A3 c3 O t b true w h0 n0 h1 n1 h2 n2 h3 n3 h).mono ?_
  rintro e w' ⟨rfl, hd⟩
  exact ⟨rfl, hd⟩
end Go.Proofs.Ytocaneaofdbpoaa.Pure
