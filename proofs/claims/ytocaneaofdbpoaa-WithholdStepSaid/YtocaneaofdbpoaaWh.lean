/- Plain laws of package withhold: what is right, what is too far, what is due, what a step gives. -/
import Derived.Test.YtocaneaofdbpoaaBk
import Derived.Test.YtocaneaofdbpoaaPAx7
set_option linter.unusedVariables false
namespace Go.Proofs.Ytocaneaofdbpoaa.Wd
open Go.RowKit Go.Proofs.Ytocaneaofdbpoaa.PA Go.Proofs.YtocaneaofdbpoaaW.PrintWords Go.Proofs.YtocaneaofdbpoaaW.PrintMore
def fd (l : List S41) (n : Nat) : S41 := l.getD n z41
theorem fd_rd (l : List S41) (n : Nat) : rd_T41 l (n : Int) = fd l n := by unfold rd_T41 fd; rw [Int.toNat_natCast]
/-- A fund is right. -/
def Fok (f : S41) : Prop := 0 ≤ f.f0 ∧ f.f0 ≤ 10000 ∧ 0 ≤ f.f1 ∧ f.f1 ≤ 10000 ∧ 0 ≤ f.f2
/-- A scheme is right. -/
def SR (l : List S58) (m : List S41) : Prop := RT l ∧ m.length ≤ 6 ∧ ∀ n, n < m.length → Fok (fd m n)
/-- A number is too far from 0. -/
def Far (a : Int) : Prop := 1125899906842624 < a ∨ a < -1125899906842624
theorem rate_right (r : Int) : rate_Right.f r = some (decide (0 ≤ r ∧ r ≤ 10000)) := by
  unfold rate_Right.f
  by_cases h : r ≥ 0
  · rw [if_pos h]
    congr 1
    rw [Bool.eq_iff_iff, decide_eq_true_eq, decide_eq_true_eq]
    omega
  · rw [if_neg h, decide_eq_false (by omega)]
instance (f : S41) : Decidable (Fok f) := inferInstanceAs (Decidable (0 ≤ f.f0 ∧ f.f0 ≤ 10000 ∧ 0 ≤ f.f1 ∧ f.f1 ≤ 10000 ∧ 0 ≤ f.f2))
instance (a : Int) : Decidable (Far a) := inferInstanceAs (Decidable (1125899906842624 < a ∨ a < -1125899906842624))
theorem bad_eq (f : S41) : withhold_Right_1.f f.f0 f.f1 f.f2 = some (!decide (Fok f)) := by
  unfold withhold_Right_1.f
  rw [rate_right, rate_right, Option.bind_some, Option.bind_some]
  by_cases h : 0 ≤ f.f0 ∧ f.f0 ≤ 10000
  · rw [decide_eq_true h, if_pos rfl]
    by_cases g : 0 ≤ f.f1 ∧ f.f1 ≤ 10000
    · rw [decide_eq_true g, if_pos rfl]
      by_cases c : 0 ≤ f.f2
      · rw [decide_eq_true (p := Fok f) ⟨h.1, h.2, g.1, g.2, c⟩, decide_eq_false (by omega)]; rfl
      · rw [decide_eq_false (p := Fok f) (fun z => c z.2.2.2.2), decide_eq_true (by omega)]; rfl
    · rw [decide_eq_false g, if_neg (by simp), decide_eq_false (p := Fok f) (fun z => g ⟨z.2.2.1, z.2.2.2.1⟩)]; rfl
  · rw [decide_eq_false h, if_neg (by simp), decide_eq_false (p := Fok f) (fun z => h ⟨z.1, z.2.1⟩)]; rfl
theorem fund_loop {l : List S41} (hl : l.length ≤ 1000000) (d : Nat) : ∀ (k n : Nat), n + d = l.length → d + 1 ≤ k → ∃ r, withhold_Fund_33.l0 k l (l.length : Int) (n : Int) = some r ∧ (0 ≤ r ↔ ¬ ∀ m, n ≤ m → m < l.length → Fok (fd l m)) := by
  induction d with
  | zero =>
    intro k n hn hk
    obtain ⟨k, rfl⟩ : ∃ j, k = j + 1 := ⟨k - 1, by omega⟩
    refine ⟨-1, ?_, ?_⟩
    · simp only [withhold_Fund_33.l0]
      rw [if_neg (by omega)]
    · constructor
      · omega
      · intro h
        exact absurd (fun m h1 h2 => absurd h2 (by omega)) h
  | succ d ih =>
    intro k n hn hk
    obtain ⟨k, rfl⟩ : ∃ j, k = j + 1 := ⟨k - 1, by omega⟩
    simp only [withhold_Fund_33.l0]
    rw [if_pos (by omega), if_pos (by omega), if_pos (by omega), fd_rd, bad_eq, Option.bind_some]
    by_cases h : Fok (fd l n)
    · rw [decide_eq_true h, if_neg (by simp), w64 (by omega) (by omega)]
      obtain ⟨r, e, hr⟩ := ih k (n + 1) (by omega) (by omega)
      rw [show ((n + 1 : Nat) : Int) = (n : Int) + 1 by omega] at e
      refine ⟨r, e, hr.trans (not_congr ⟨fun z m h1 h2 => ?_, fun z m h1 h2 => z m (by omega) h2⟩)⟩
      by_cases y : m = n
      · rw [y]; exact h
      · exact z m (by omega) h2
    · rw [decide_eq_false h, if_pos (by simp)]
      exact ⟨_, rfl, fun _ z => h (z n (Nat.le_refl _) (by omega)), fun _ => by omega⟩
open Classical in
theorem scheme_eq {k : Nat} {l : List S58} {m : List S41} (hl : l.length ≤ 1000000) (hm : m.length ≤ 1000000) (hk : l.length + 1 ≤ k) (hk' : 10 ≤ k) : withhold_Right.f k l m = some (decide (SR l m)) := by
  unfold withhold_Right.f
  rw [right_eq hl hk, Option.bind_some]
  by_cases h : RT l
  · rw [decide_eq_true h, if_pos rfl]
    by_cases g : m.length ≤ 6
    · rw [if_pos (by omega)]
      unfold withhold_Fund_23.f withhold_Fund_33.f
      obtain ⟨r, e, hr⟩ := fund_loop hm m.length k 0 (by omega) (by omega)
      rw [show ((0 : Nat) : Int) = 0 from rfl] at e
      rw [e, Option.bind_some, Option.bind_some]
      congr 1
      rw [Bool.eq_iff_iff, decide_eq_true_eq, Bool.not_eq_true', decide_eq_false_iff_not]
      constructor
      · intro z
        refine ⟨h, g, fun n hn => ?_⟩
        have : ¬ ¬ _ := fun y => z (hr.2 y)
        exact Classical.not_not.1 this n (by omega) hn
      · intro z y
        exact hr.1 y (fun n _ hn => z.2.2 n hn)
    · rw [if_neg (by omega), decide_eq_false (fun z : SR l m => g z.2.1)]
  · rw [decide_eq_false h, if_neg (by simp), decide_eq_false (fun z : SR l m => h z.1)]
theorem far1 (a : Int) : withhold_far_1.f a = some (decide (Far a)) := by
  unfold withhold_far_1.f
  by_cases h : a > 1125899906842624
  · rw [if_pos h, decide_eq_true (p := Far a) (Or.inl h)]
  · rw [if_neg h]
    congr 1
    rw [Bool.eq_iff_iff, decide_eq_true_eq, decide_eq_true_eq]
    exact ⟨Or.inr, fun z => z.resolve_left h⟩
theorem far_loop {l : List Int} (hl : l.length ≤ 1000000) (d : Nat) : ∀ (k n : Nat), n + d = l.length → d + 1 ≤ k → ∃ r, slices_IndexFunc_int_int.l0 k l (l.length : Int) (n : Int) = some r ∧ (0 ≤ r ↔ ∃ a ∈ l.drop n, Far a) := by
  induction d with
  | zero =>
    intro k n hn hk
    obtain ⟨k, rfl⟩ : ∃ j, k = j + 1 := ⟨k - 1, by omega⟩
    refine ⟨-1, ?_, ?_⟩
    · simp only [slices_IndexFunc_int_int.l0]
      rw [if_neg (by omega)]
    · rw [List.drop_eq_nil_of_le (by omega)]
      constructor
      · omega
      · rintro ⟨a, h, _⟩
        cases h
  | succ d ih =>
    intro k n hn hk
    obtain ⟨k, rfl⟩ : ∃ j, k = j + 1 := ⟨k - 1, by omega⟩
    have hx : rd l (n : Int) = l[n]'(by omega) := by
      unfold rd
      rw [Int.toNat_natCast, List.getD_eq_getElem?_getD, List.getElem?_eq_getElem (by omega)]
      rfl
    simp only [slices_IndexFunc_int_int.l0]
    rw [if_pos (by omega), if_pos (by omega), if_pos (by omega), far1, Option.bind_some, hx, List.drop_eq_getElem_cons (by omega)]
    by_cases h : Far (l[n]'(by omega))
    · rw [decide_eq_true h, if_pos rfl]
      exact ⟨_, rfl, fun _ => ⟨_, List.mem_cons_self, h⟩, fun _ => by omega⟩
    · rw [decide_eq_false h, if_neg (by simp), w64 (by omega) (by omega)]
      obtain ⟨r, e, hr⟩ := ih k (n + 1) (by omega) (by omega)
      rw [show ((n + 1 : Nat) : Int) = (n : Int) + 1 by omega] at e
      refine ⟨r, e, hr.trans ⟨fun ⟨a, ha, fa⟩ => ⟨a, List.mem_cons_of_mem _ ha, fa⟩, fun ⟨a, ha, fa⟩ => ?_⟩⟩
      rcases List.mem_cons.1 ha with rfl | ha
      · exact absurd fa h
      · exact ⟨a, ha, fa⟩
theorem far_eq {k : Nat} {l : List Int} (hl : l.length ≤ 1000000) (hk : l.length + 1 ≤ k) : withhold_far.f k l = some (decide (∃ a ∈ l, Far a)) := by
  unfold withhold_far.f slices_ContainsFunc_int_int.f slices_IndexFunc_int_int.f
  obtain ⟨r, e, hr⟩ := far_loop hl l.length k 0 (by omega) (by omega)
  rw [show ((0 : Nat) : Int) = 0 from rfl] at e
  rw [e, Option.bind_some, Option.bind_some]
  congr 1
  rw [Bool.eq_iff_iff, decide_eq_true_eq, decide_eq_true_eq]
  exact hr
/-- What counts of base b for a fund, and what is paid, and owed. -/
def cnt (f : S41) (b : Int) : Int := min (max b 0) f.f2
def pd (m : List S41) (b : Int) (n : Nat) : Int := cnt (fd m n) b * (fd m n).f0 / 10000
def ow (m : List S41) (b : Int) (n : Nat) : Int := cnt (fd m n) b * (fd m n).f1 / 10000
theorem cnt_bd {f : S41} (h : Fok f) {b : Int} (b1 : b ≤ 9223372036854775807) : 0 ≤ cnt f b ∧ cnt f b ≤ 9223372036854775807 ∧ cnt f b ≤ max b 0 ∧ cnt f b ≤ f.f2 := by
  have := h.2.2.2.2
  unfold cnt
  omega
theorem due_loop {l : List S58} {m : List S41} (h : SR l m) {t b x : Int} (b1 : b ≤ 9223372036854775807) (d : Nat) : ∀ (k n : Nat) (p o : List Int), n + d = m.length → d + 26 ≤ k → p = (List.range n).map (pd m b) → o = (List.range n).map (ow m b) →
    withhold_Due.l0 k b m (m.length : Int) (n : Int) t b x p o = some (t, b, x, (List.range m.length).map (pd m b), (List.range m.length).map (ow m b), 0) := by
  induction d with
  | zero =>
    intro k n p o hn hk hp ho
    obtain ⟨k, rfl⟩ : ∃ j, k = j + 1 := ⟨k - 1, by omega⟩
    simp only [withhold_Due.l0]
    rw [if_neg (by omega), hp, ho, show n = m.length by omega]
  | succ d ih =>
    intro k n p o hn hk hp ho
    obtain ⟨k, rfl⟩ : ∃ j, k = j + 1 := ⟨k - 1, by omega⟩
    have f := h.2.2 n (by omega)
    have m6 := h.2.1
    have c := cnt_bd f b1
    obtain ⟨e, e0, e1⟩ := of_down (k := k) (by omega) c.1 c.2.1 f.1 f.2.1
    obtain ⟨g, g0, g1⟩ := of_down (k := k) (by omega) c.1 c.2.1 f.2.2.1 f.2.2.2.1
    have pl : p.length = n := by rw [hp]; simp
    have ol : o.length = n := by rw [ho]; simp
    simp only [withhold_Due.l0]
    rw [if_pos (by omega), if_pos (by omega), if_pos (by omega), fd_rd, mx_max, mn_min, show min (max b 0) (fd m n).f2 = cnt (fd m n) b from rfl, e, Option.bind_some, g, Option.bind_some, Option.bind_some, if_pos (by simp; omega), Option.bind_some, if_pos (by simp; omega), w64 (by omega) (by omega)]
    have := ih k (n + 1) (p ++ [pd m b n]) (o ++ [ow m b n]) (by omega) (by omega) (by rw [hp, List.range_succ, List.map_append]; rfl) (by rw [ho, List.range_succ, List.map_append]; rfl)
    rwa [show ((n + 1 : Nat) : Int) = (n : Int) + 1 by omega] at this
open Classical in
/-- What is due of a year's. -/
theorem due_yes {k : Nat} {l : List S58} {m : List S41} (h : SR l m) (hk : 60 ≤ k) {t b : Int} (ht : ¬ Far t) (hb : ¬ Far b) :
    withhold_Due.f k l m t b = some (t, b, tx l t l.length, (List.range m.length).map (pd m b), (List.range m.length).map (ow m b), 0) := by
  have l12 := h.1.2.2
  have m6 := h.2.1
  unfold withhold_Due.f
  rw [scheme_eq (by omega) (by omega) (by omega) (by omega), decide_eq_true h, Option.bind_some, if_pos rfl, far_eq (by simp) (by simp; omega), decide_eq_false (by simp [ht, hb]), Option.bind_some, if_neg (by simp)]
  unfold Far at ht hb
  rw [tax_yes h.1 (by omega) (by omega) (by omega), Option.bind_some]
  exact due_loop h (by omega) m.length k 0 [] [] (by omega) (by omega) rfl rfl
open Classical in
theorem due_far {k : Nat} {l : List S58} {m : List S41} (h : SR l m) (hk : 60 ≤ k) {t b : Int} (hf : Far t ∨ Far b) : withhold_Due.f k l m t b = some (0, 0, 0, [], [], 3) := by
  have l12 := h.1.2.2
  have m6 := h.2.1
  unfold withhold_Due.f
  rw [scheme_eq (by omega) (by omega) (by omega) (by omega), decide_eq_true h, Option.bind_some, if_pos rfl, far_eq (by simp) (by simp; omega), decide_eq_true (by simpa using hf), Option.bind_some, if_pos rfl]
open Classical in
theorem due_no {k : Nat} {l : List S58} {m : List S41} (h : ¬ SR l m) (hl : l.length ≤ 1000000) (hm : m.length ≤ 1000000) (hk : l.length + 1 ≤ k) (hk' : 10 ≤ k) (t b : Int) : withhold_Due.f k l m t b = some (0, 0, 0, [], [], 1) := by
  unfold withhold_Due.f
  rw [scheme_eq hl hm hk hk', decide_eq_false h, Option.bind_some, if_neg (by simp)]
end Go.Proofs.Ytocaneaofdbpoaa.Wd
