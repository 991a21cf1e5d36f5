/- Plain laws of package withhold: a step of a year; the fixed answer of the stage is true. -/
import Derived.Test.YtocaneaofdbpoaaWh
import Derived.Test.YtocaneaofdbpoaaPAx8
set_option linter.unusedVariables false
namespace Go.Proofs.Ytocaneaofdbpoaa.Wd
open Go.RowKit Go.Proofs.Ytocaneaofdbpoaa.PA Go.Proofs.YtocaneaofdbpoaaW.PrintWords Go.Proofs.YtocaneaofdbpoaaW.PrintMore
/-- One number of a list, less that of another list that may be empty. -/
def ls (a b : List Int) (n : Nat) : Int := if 0 < b.length then wrap64 (rd a (n : Int) - rd b (n : Int)) else rd a (n : Int)
def lss (a b : List Int) : List Int := (List.range a.length).map (ls a b)
theorem wless_loop {a b : List Int} (ha : a.length ≤ 1000000) (hb : b.length = 0 ∨ a.length ≤ b.length) (d : Nat) : ∀ (k n : Nat) (o : List Int), n + d = a.length → d + 1 ≤ k → o = (List.range n).map (ls a b) → withhold_less.l0 k b o a (a.length : Int) (n : Int) = some (lss a b) := by
  induction d with
  | zero =>
    intro k n o hn hk ho
    obtain ⟨k, rfl⟩ : ∃ j, k = j + 1 := ⟨k - 1, by omega⟩
    simp only [withhold_less.l0]
    rw [if_neg (by omega), ho, lss, show n = a.length by omega]
  | succ d ih =>
    intro k n o hn hk ho
    obtain ⟨k, rfl⟩ : ∃ j, k = j + 1 := ⟨k - 1, by omega⟩
    have ol : o.length = n := by rw [ho]; simp
    have := ih k (n + 1) (o ++ [ls a b n]) (by omega) (by omega) (by rw [ho, List.range_succ, List.map_append]; rfl)
    rw [show ((n + 1 : Nat) : Int) = (n : Int) + 1 by omega] at this
    simp only [withhold_less.l0]
    rw [if_pos (by omega), if_pos (by omega), if_pos (by omega), w64 (x := (n : Int) + 1) (by omega) (by omega)]
    unfold ls at this
    by_cases h : 0 < b.length
    · rw [if_pos (by omega), if_pos (by omega), if_pos (by omega)]
      rw [if_pos h] at this
      exact this
    · rw [if_neg (by omega), if_pos (by omega)]
      rw [if_neg h] at this
      exact this
theorem wless_eq {k : Nat} {a b : List Int} (ha : a.length ≤ 1000000) (hb : b.length = 0 ∨ a.length ≤ b.length) (hk : a.length + 1 ≤ k) : withhold_less.f k a b = some (lss a b) :=
  wless_loop ha hb a.length k 0 [] (by omega) (by omega) rfl
/-- What is paid, and owed, of base b. -/
def pds (m : List S41) (b : Int) : List Int := (List.range m.length).map (pd m b)
def ows (m : List S41) (b : Int) : List Int := (List.range m.length).map (ow m b)
theorem pds_len (m : List S41) (b : Int) : (pds m b).length = m.length := by simp [pds]
theorem ows_len (m : List S41) (b : Int) : (ows m b).length = m.length := by simp [ows]
theorem due_yes' {k : Nat} {l : List S58} {m : List S41} (h : SR l m) (hk : 60 ≤ k) {t b : Int} (ht : ¬ Far t) (hb : ¬ Far b) : withhold_Due.f k l m t b = some (t, b, tx l t l.length, pds m b, ows m b, 0) := due_yes h hk ht hb
/-- The lengths of a year's lists fit a scheme. -/
def Fit (m : List S41) (P O : List Int) : Prop := (P.length = 0 ∨ P.length = m.length) ∧ (O.length = 0 ∨ O.length = m.length)
theorem step_end {k : Nat} {m : List S41} (m6 : m.length ≤ 6) (hk : 20 ≤ k) {P O p o : List Int} (hp : p.length = m.length) (ho : o.length = m.length) (hf : Fit m P O) (a b t0 b0 x0 t1 b1 x1 : Int) :
    withhold_Step.j0 k a b false t0 b0 x0 P O t1 b1 x1 p o = some (t1, b1, x1, p, o, a, b, wrap64 (x1 - x0), lss p P, lss o O, 0) := by
  obtain ⟨k, rfl⟩ : ∃ j, k = j + 1 := ⟨k - 1, by omega⟩
  obtain ⟨f, g⟩ := hf
  simp only [withhold_Step.j0]
  rw [if_neg (by simp), wless_eq (by omega) (by omega) (by omega), Option.bind_some, wless_eq (by omega) (by omega) (by omega), Option.bind_some]
theorem step_bad {k : Nat} (hk : 1 ≤ k) {P O p o : List Int} (a b t0 b0 x0 t1 b1 x1 : Int) :
    withhold_Step.j0 k a b true t0 b0 x0 P O t1 b1 x1 p o = some (0, 0, 0, [], [], 0, 0, 0, [], [], 1) := by
  obtain ⟨k, rfl⟩ : ∃ j, k = j + 1 := ⟨k - 1, by omega⟩
  simp only [withhold_Step.j0]
  rw [if_pos trivial]
open Classical in
theorem step_no {k : Nat} {l : List S58} {m : List S41} (h : ¬ SR l m) (hl : l.length ≤ 1000000) (hm : m.length ≤ 1000000) (hk : l.length + 1 ≤ k) (hk' : 10 ≤ k) (t0 b0 x0 : Int) (P O : List Int) (t b : Int) :
    withhold_Step.f k l m t0 b0 x0 P O t b = some (0, 0, 0, [], [], 0, 0, 0, [], [], 1) := by
  unfold withhold_Step.f
  rw [scheme_eq hl hm hk hk', decide_eq_false h, Option.bind_some, if_neg (by simp)]
open Classical in
theorem step_far {k : Nat} {l : List S58} {m : List S41} (h : SR l m) (hk : 60 ≤ k) {t0 b0 x0 : Int} {P O : List Int} {t b : Int} (hf : Far t0 ∨ Far t ∨ Far b0 ∨ Far b) :
    withhold_Step.f k l m t0 b0 x0 P O t b = some (0, 0, 0, [], [], 0, 0, 0, [], [], 3) := by
  have l12 := h.1.2.2
  have m6 := h.2.1
  unfold withhold_Step.f
  rw [scheme_eq (by omega) (by omega) (by omega) (by omega), decide_eq_true h, Option.bind_some, if_pos rfl, far_eq (by simp) (by simp; omega), decide_eq_true (by simpa using hf), Option.bind_some, if_pos rfl]
open Classical in
theorem step_over {k : Nat} {l : List S58} {m : List S41} (h : SR l m) (hk : 60 ≤ k) {t0 b0 x0 : Int} {P O : List Int} {t b : Int} (h1 : ¬ Far t0) (h2 : ¬ Far t) (h3 : ¬ Far b0) (h4 : ¬ Far b) (hf : Far (t0 + t) ∨ Far (b0 + b)) :
    withhold_Step.f k l m t0 b0 x0 P O t b = some (0, 0, 0, [], [], 0, 0, 0, [], [], 3) := by
  have l12 := h.1.2.2
  have m6 := h.2.1
  unfold withhold_Step.f
  rw [scheme_eq (by omega) (by omega) (by omega) (by omega), decide_eq_true h, Option.bind_some, if_pos rfl, far_eq (by simp) (by simp; omega), decide_eq_false (by simp [h1, h2, h3, h4]), Option.bind_some, if_neg (by simp)]
  unfold Far at h1 h2 h3 h4
  rw [w64 (x := t0 + t) (by omega) (by omega), w64 (x := b0 + b) (by omega) (by omega), due_far h hk hf, Option.bind_some, if_neg (by simp)]
open Classical in
theorem step_yes {k : Nat} {l : List S58} {m : List S41} (h : SR l m) (hk : 60 ≤ k) {t0 b0 x0 : Int} {P O : List Int} {t b : Int} (h1 : ¬ Far t0) (h2 : ¬ Far t) (h3 : ¬ Far b0) (h4 : ¬ Far b) (h5 : ¬ Far (t0 + t)) (h6 : ¬ Far (b0 + b)) :
    withhold_Step.f k l m t0 b0 x0 P O t b = some (if Fit m P O then (t0 + t, b0 + b, tx l (t0 + t) l.length, pds m (b0 + b), ows m (b0 + b), t, b, wrap64 (tx l (t0 + t) l.length - x0), lss (pds m (b0 + b)) P, lss (ows m (b0 + b)) O, 0) else (0, 0, 0, [], [], 0, 0, 0, [], [], 1)) := by
  have l12 := h.1.2.2
  have m6 := h.2.1
  unfold withhold_Step.f
  rw [scheme_eq (by omega) (by omega) (by omega) (by omega), decide_eq_true h, Option.bind_some, if_pos rfl, far_eq (by simp) (by simp; omega), decide_eq_false (by simp [h1, h2, h3, h4]), Option.bind_some, if_neg (by simp)]
  have h5' := h5
  have h6' := h6
  unfold Far at h1 h2 h3 h4
  rw [w64 (x := t0 + t) (by omega) (by omega), w64 (x := b0 + b) (by omega) (by omega), due_yes' h hk h5' h6', Option.bind_some, if_pos rfl]
  by_cases hf : Fit m P O
  · rw [if_pos hf]
    have hf' := hf
    obtain ⟨f, g⟩ := hf'
    have key := step_end (k := k) m6 (by omega) (pds_len m (b0 + b)) (ows_len m (b0 + b)) hf t b t0 b0 x0 (t0 + t) (b0 + b) (tx l (t0 + t) l.length)
    have no : (O.length : Int) ≠ 0 → ((O.length : Int) != (m.length : Int)) = false := fun z => by simp; omega
    by_cases p0 : (P.length : Int) = 0
    · rw [if_pos p0]
      by_cases o0 : (O.length : Int) = 0
      · rw [if_pos o0, key]
      · rw [if_neg o0, no o0, key]
    · rw [if_neg p0, if_pos (by omega)]
      by_cases o0 : (O.length : Int) = 0
      · rw [if_pos o0, key]
      · rw [if_neg o0, no o0, key]
  · rw [if_neg hf]
    unfold Fit at hf
    have key := step_bad (k := k) (P := P) (O := O) (p := pds m (b0 + b)) (o := ows m (b0 + b)) (by omega) t b t0 b0 x0 (t0 + t) (b0 + b) (tx l (t0 + t) l.length)
    have no : ¬ (O.length = 0 ∨ O.length = m.length) → ((O.length : Int) != (m.length : Int)) = true := fun z => by simp; omega
    by_cases p0 : (P.length : Int) = 0
    · rw [if_pos p0, if_neg (by omega), no (by omega), key]
    · rw [if_neg p0]
      by_cases p1 : (P.length : Int) = (m.length : Int)
      · rw [if_pos p1, if_neg (by omega), no (by omega), key]
      · rw [if_neg p1, key]
theorem sr_one {r : Int} (r0 : 0 ≤ r) (r1 : r ≤ 10000) {f g c : Int} (f0 : 0 ≤ f) (f1 : f ≤ 10000) (g0 : 0 ≤ g) (g1 : g ≤ 10000) (c0 : 0 ≤ c) : SR [⟨0, r⟩] [⟨f, g, c⟩] := by
  refine ⟨rt_one r0 r1, by simp, fun n hn => ?_⟩
  obtain rfl : n = 0 := by simp at hn; omega
  exact ⟨f0, f1, g0, g1, c0⟩
open Classical in
theorem awake_eq {k : Nat} (hk : 60 ≤ k) : paymasterlaw14_awake.f k = some true := by
  have r := sr_one (r := 1000) (f := 500) (g := 700) (c := 15000) (by omega) (by omega) (by omega) (by omega) (by omega) (by omega) (by omega)
  have t1 : tx [⟨0, 1000⟩] 10000 1 = 1000 := by decide +kernel
  have t2 : tx [⟨0, 1000⟩] 0 1 = 0 := by decide +kernel
  have p1 : pds [⟨500, 700, 15000⟩] 10000 = [500] := by decide +kernel
  have p2 : pds [⟨500, 700, 15000⟩] 20000 = [750] := by decide +kernel
  have o1 : ows [⟨500, 700, 15000⟩] 10000 = [700] := by decide +kernel
  have o2 : ows [⟨500, 700, 15000⟩] 20000 = [1050] := by decide +kernel
  have n : ∀ a : Int, -1125899906842624 ≤ a → a ≤ 1125899906842624 → ¬ Far a := fun a x y => by unfold Far; omega
  have s1 : withhold_Step.f k [⟨0, 1000⟩] [⟨500, 700, 15000⟩] 0 0 0 [] [] 10000 10000 = some (10000, 10000, 1000, [500], [700], 10000, 10000, 1000, [500], [700], 0) := by
    rw [step_yes r hk (n _ (by omega) (by omega)) (n _ (by omega) (by omega)) (n _ (by omega) (by omega)) (n _ (by omega) (by omega)) (n _ (by omega) (by omega)) (n _ (by omega) (by omega)), if_pos ⟨Or.inl rfl, Or.inl rfl⟩]
    simp only [Int.zero_add, List.length_cons, List.length_nil, Nat.zero_add]
    rw [t1, p1, o1, show wrap64 (1000 - 0) = 1000 by decide +kernel, show lss [500] [] = [500] by decide +kernel, show lss [700] [] = [700] by decide +kernel]
  have s2 : withhold_Step.f k [⟨0, 1000⟩] [⟨500, 700, 15000⟩] 10000 10000 1000 [500] [700] (-10000) 10000 = some (0, 20000, 0, [750], [1050], -10000, 10000, -1000, [250], [350], 0) := by
    rw [step_yes r hk (n _ (by omega) (by omega)) (n _ (by omega) (by omega)) (n _ (by omega) (by omega)) (n _ (by omega) (by omega)) (n _ (by omega) (by omega)) (n _ (by omega) (by omega)), if_pos ⟨Or.inr rfl, Or.inr rfl⟩]
    simp only [show (10000 : Int) + -10000 = 0 from rfl, show (10000 : Int) + 10000 = 20000 from rfl, List.length_cons, List.length_nil, Nat.zero_add]
    rw [t2, p2, o2, show wrap64 (0 - 1000) = -1000 by decide +kernel, show lss [750] [500] = [250] by decide +kernel, show lss [1050] [700] = [350] by decide +kernel]
  have sc : withhold_Right.f k [⟨0, 1000⟩] [⟨500, 700, 15000⟩] = some true := by
    rw [scheme_eq (by simp) (by simp) (by simp; omega) (by omega), decide_eq_true r]
  unfold paymasterlaw14_awake.f
  rw [Option.bind_some, Option.bind_some, s1, Option.bind_some]
  show (withhold_Step.f k [⟨0, 1000⟩] [⟨500, 700, 15000⟩] 10000 10000 1000 [500] [700] (-10000) 10000).bind _ = _
  rw [s2, Option.bind_some, sc]
  simp [rd]
end Go.Proofs.Ytocaneaofdbpoaa.Wd
