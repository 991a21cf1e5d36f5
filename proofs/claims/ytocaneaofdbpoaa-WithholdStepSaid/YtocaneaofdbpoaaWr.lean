/- The reference's answers for package withhold are the program's: what is right, what is due. -/
import Derived.Test.YtocaneaofdbpoaaBt
import Derived.Test.YtocaneaofdbpoaaSm
import Derived.Test.YtocaneaofdbpoaaPAx17
set_option linter.unusedVariables false
namespace Go.Proofs.Ytocaneaofdbpoaa.Wd
open Go.RowKit Go.Proofs.Ytocaneaofdbpoaa.PA Go.Proofs.YtocaneaofdbpoaaW.PrintWords Go.Proofs.YtocaneaofdbpoaaW.PrintMore
/-- A fund, as the reference's. -/
def cv (f : S41) : S68 := ⟨f.f0, f.f1, f.f2⟩
theorem cv_rd {m : List S41} {n : Nat} (h : n < m.length) : rd_T68 (m.map cv) (n : Int) = cv (fd m n) := by
  unfold rd_T68 fd
  rw [Int.toNat_natCast, List.getD_eq_getElem?_getD, List.getD_eq_getElem?_getD, List.getElem?_map, List.getElem?_eq_getElem h]
  rfl
theorem ref_loop {l : List S58} {m : List S41} (hm : m.length ≤ 1000) (d : Nat) : ∀ (k n : Nat) (o : List S68), n + d = m.length → d + 1 ≤ k → o = (m.take n).map cv → paymasterlaw14_ref.l0 k m (m.length : Int) (n : Int) l o = some (l, m.map cv) := by
  induction d with
  | zero =>
    intro k n o hn hk ho
    obtain ⟨k, rfl⟩ : ∃ j, k = j + 1 := ⟨k - 1, by omega⟩
    simp only [paymasterlaw14_ref.l0]
    rw [if_neg (by omega), ho, List.take_of_length_le (by omega)]
  | succ d ih =>
    intro k n o hn hk ho
    obtain ⟨k, rfl⟩ : ∃ j, k = j + 1 := ⟨k - 1, by omega⟩
    have ol : o.length = n := by rw [ho]; simp; omega
    simp only [paymasterlaw14_ref.l0]
    rw [if_pos (by omega), if_pos (by omega), if_pos (by omega), if_pos (by omega), w64 (by omega) (by omega)]
    have := ih k (n + 1) (o ++ [cv (fd m n)]) (by omega) (by omega) (by
      have z : m[n]? = some (fd m n) := by rw [List.getElem?_eq_getElem (by omega)]; simp [fd, List.getD_eq_getElem?_getD, List.getElem?_eq_getElem (show n < m.length by omega)]
      rw [ho, List.take_add_one, List.map_append, z]
      rfl)
    rw [show ((n + 1 : Nat) : Int) = (n : Int) + 1 by omega] at this
    rw [fd_rd]
    exact this
theorem ref_eq {k : Nat} (l : List S58) {m : List S41} (hm : m.length ≤ 1000) (hk : m.length + 1 ≤ k) : paymasterlaw14_ref.f k l m = some (l, m.map cv) :=
  ref_loop hm m.length k 0 [] (by omega) (by omega) rfl
open Classical in
theorem refR_loop {m : List S41} (hm : m.length ≤ 1000) (d : Nat) : ∀ (k n : Nat), n + d = m.length → d + 1 ≤ k → paymasterref14_Right.l0 k (m.map cv) (m.length : Int) (n : Int) = some (decide (∀ i, n ≤ i → i < m.length → Fok (fd m i))) := by
  induction d with
  | zero =>
    intro k n hn hk
    obtain ⟨k, rfl⟩ : ∃ j, k = j + 1 := ⟨k - 1, by omega⟩
    simp only [paymasterref14_Right.l0]
    rw [if_neg (by omega), decide_eq_true (fun i h1 h2 => absurd h2 (by omega))]
  | succ d ih =>
    intro k n hn hk
    obtain ⟨k, rfl⟩ : ∃ j, k = j + 1 := ⟨k - 1, by omega⟩
    simp only [paymasterref14_Right.l0]
    rw [if_pos (by omega), if_pos (by omega), if_pos (by simp; omega), cv_rd (by omega)]
    have no : ¬ Fok (fd m n) → some false = some (decide (∀ i, n ≤ i → i < m.length → Fok (fd m i))) := fun z => by rw [decide_eq_false (fun y => z (y n (Nat.le_refl _) (by omega)))]
    have q0 : (cv (fd m n)).f0 = (fd m n).f0 := rfl
    have q1 : (cv (fd m n)).f1 = (fd m n).f1 := rfl
    have q2 : (cv (fd m n)).f2 = (fd m n).f2 := rfl
    by_cases h0 : (cv (fd m n)).f0 < 0
    · rw [if_pos h0]; exact no (fun z => by have := z.1; omega)
    rw [if_neg h0]
    by_cases h1 : (cv (fd m n)).f0 > 10000
    · rw [if_pos h1]; exact no (fun z => by have := z.2.1; omega)
    rw [if_neg h1]
    by_cases h2 : (cv (fd m n)).f1 < 0
    · rw [if_pos h2]; exact no (fun z => by have := z.2.2.1; omega)
    rw [if_neg h2]
    by_cases h3 : (cv (fd m n)).f1 > 10000
    · rw [if_pos h3]; exact no (fun z => by have := z.2.2.2.1; omega)
    rw [if_neg h3]
    by_cases h4 : (cv (fd m n)).f2 < 0
    · rw [if_pos h4]; exact no (fun z => by have := z.2.2.2.2; omega)
    rw [if_neg h4, w64 (by omega) (by omega)]
    have := ih k (n + 1) (by omega) (by omega)
    rw [show ((n + 1 : Nat) : Int) = (n : Int) + 1 by omega] at this
    rw [this]
    congr 1
    rw [Bool.eq_iff_iff, decide_eq_true_eq, decide_eq_true_eq]
    constructor
    · intro z i g1 g2
      by_cases e : i = n
      · rw [e]; exact ⟨by omega, by omega, by omega, by omega, by omega⟩
      · exact z i (by omega) g2
    · intro z i g1 g2
      exact z i (by omega) g2
open Classical in
theorem refR_eq {k : Nat} (hk : 60 ≤ k) (l : List S58) {m : List S41} (hm : m.length ≤ 40) : paymasterref14_Right.f k l (m.map cv) = some (decide (SR l m)) := by
  unfold paymasterref14_Right.f
  obtain ⟨j, rfl⟩ : ∃ j, k = j + 1 := ⟨k - 1, by omega⟩
  rw [refright_eq (by omega), Option.bind_some]
  by_cases h : RT l
  · rw [decide_eq_true h, if_pos rfl]
    simp only [paymasterref14_Right.j0, List.length_map]
    by_cases g : m.length ≤ 6
    · rw [decide_eq_false (by omega), if_neg (by simp)]
      have := refR_loop (m := m) (by omega) m.length j 0 (by omega) (by omega)
      rw [show ((0 : Nat) : Int) = 0 from rfl] at this
      rw [this]
      congr 1
      rw [Bool.eq_iff_iff, decide_eq_true_eq, decide_eq_true_eq]
      exact ⟨fun z => ⟨h, g, fun i hi => z i (Nat.zero_le _) hi⟩, fun z i _ hi => z.2.2 i hi⟩
    · rw [decide_eq_true (by omega), if_pos rfl, decide_eq_false (fun z : SR l m => g z.2.1)]
  · rw [decide_eq_false h, if_neg (by simp), decide_eq_false (fun z : SR l m => h z.1)]
    simp only [paymasterref14_Right.j0]
    rw [if_pos trivial]
theorem refFar (a : Int) : paymasterref14_Far.f a = some (decide (Far a)) := by
  unfold paymasterref14_Far.f
  by_cases h : a > 1125899906842624
  · rw [if_pos h, decide_eq_true (p := Far a) (Or.inl h)]
  · rw [if_neg h]
    congr 1
    rw [Bool.eq_iff_iff, decide_eq_true_eq, decide_eq_true_eq]
    exact ⟨Or.inr, fun z => z.resolve_left h⟩
theorem refpart14 {k : Nat} (hk : 20000 ≤ k) {b r c : Int} (c0 : 0 ≤ c) (b1 : b ≤ 9223372036854775807) (r0 : 0 ≤ r) (r1 : r ≤ 10000) : paymasterref14_part.f k b r c = some (min (max b 0) c * r / 10000) := by
  unfold paymasterref14_part.f
  by_cases h : b < 0
  · rw [if_pos h, if_neg (by omega), refof_down hk (by omega) (by omega) r0 r1, Option.bind_some, show min (max b 0) c = 0 by omega]
  · rw [if_neg h]
    by_cases g : b > c
    · rw [if_pos g, refof_down hk (by omega) (by omega) r0 r1, Option.bind_some, show min (max b 0) c = c by omega]
    · rw [if_neg g, refof_down hk (by omega) (by omega) r0 r1, Option.bind_some, show min (max b 0) c = b by omega]
theorem refdue_loop {l : List S58} {m : List S41} (h : SR l m) {t b x : Int} (b1 : b ≤ 9223372036854775807) (d : Nat) : ∀ (k n : Nat) (p o : List Int), n + d = m.length → d + 20001 ≤ k → p = (List.range n).map (pd m b) → o = (List.range n).map (ow m b) →
    paymasterref14_Due.l0 k b (m.map cv) (m.length : Int) (n : Int) t b x p o = some (t, b, x, pds m b, ows m b) := by
  induction d with
  | zero =>
    intro k n p o hn hk hp ho
    obtain ⟨k, rfl⟩ : ∃ j, k = j + 1 := ⟨k - 1, by omega⟩
    simp only [paymasterref14_Due.l0]
    rw [if_neg (by omega), hp, ho, show n = m.length by omega]
    rfl
  | succ d ih =>
    intro k n p o hn hk hp ho
    obtain ⟨k, rfl⟩ : ∃ j, k = j + 1 := ⟨k - 1, by omega⟩
    have f := h.2.2 n (by omega)
    have m6 := h.2.1
    have pl : p.length = n := by rw [hp]; simp
    have ol : o.length = n := by rw [ho]; simp
    simp only [paymasterref14_Due.l0]
    rw [if_pos (by omega), if_pos (by omega), if_pos (by simp; omega), cv_rd (by omega)]
    simp only [cv]
    rw [refpart14 (by omega) f.2.2.2.2 b1 f.1 f.2.1, Option.bind_some, if_pos (by omega), refpart14 (by omega) f.2.2.2.2 b1 f.2.2.1 f.2.2.2.1, Option.bind_some, if_pos (by omega), w64 (by omega) (by omega)]
    have := ih k (n + 1) (p ++ [pd m b n]) (o ++ [ow m b n]) (by omega) (by omega) (by rw [hp, List.range_succ, List.map_append]; rfl) (by rw [ho, List.range_succ, List.map_append]; rfl)
    rwa [show ((n + 1 : Nat) : Int) = (n : Int) + 1 by omega] at this
theorem refdue_eq {k : Nat} {l : List S58} {m : List S41} (h : SR l m) (hk : 20100 ≤ k) {t b : Int} (ht : t ≤ 9223372036854775807) (hb : b ≤ 9223372036854775807) :
    paymasterref14_Due.f k l (m.map cv) t b = some (t, b, tx l t l.length, pds m b, ows m b) := by
  have m6 := h.2.1
  unfold paymasterref14_Due.f
  rw [reftax_eq h.1 (by omega) ht, Option.bind_some, List.length_map]
  exact refdue_loop h hb m.length k 0 [] [] (by omega) (by omega) rfl rfl
end Go.Proofs.Ytocaneaofdbpoaa.Wd
