/- Proved here: WithholdYear returns true, for any scheme and any months. -/
import Derived.Test.YtocaneaofdbpoaaPYear
import Derived.Test.YtocaneaofdbpoaaSm
import Derived.Test.YtocaneaofdbpoaaWm2
import Derived.Test.YtocaneaofdbpoaaWz
set_option linter.unusedVariables false
namespace Go.Proofs.Ytocaneaofdbpoaa.Pure
open Go.RowKit Go.Proofs.Ytocaneaofdbpoaa.PA Go.Proofs.YtocaneaofdbpoaaW.PrintWords Go.Proofs.YtocaneaofdbpoaaW.PrintLast Go.Proofs.YtocaneaofdbpoaaW.PrintMore
open Go.Proofs.Ytocaneaofdbpoaa.Wd
theorem rd_set {L : List Int} {j i : Nat} (hj : j < L.length) (v : Int) : rd (L.set j v) (i : Int) = if i = j then v else rd L (i : Int) := by
  unfold rd
  rw [Int.toNat_natCast, List.getD_eq_getElem?_getD, List.getD_eq_getElem?_getD, List.getElem?_set]
  by_cases h : j = i
  · rw [if_pos h, if_pos (by omega), if_pos h.symm]; rfl
  · rw [if_neg h, if_neg (fun g => h g.symm)]
theorem list_rd {L M : List Int} (h : L.length = M.length) (g : ∀ i : Nat, i < L.length → rd L (i : Int) = rd M (i : Int)) : L = M := by
  refine List.ext_getElem h fun i h1 h2 => ?_
  have := g i h1
  unfold rd at this
  rw [Int.toNat_natCast, List.getD_eq_getElem?_getD, List.getD_eq_getElem?_getD, List.getElem?_eq_getElem h1, List.getElem?_eq_getElem h2] at this
  exact this
/-- A month's payments are added to what was paid. -/
theorem year_add {l : List S58} {m : List S41} (h : SR l m) {B B' : Int} {A : List Int} (lA : A.length = m.length) (hA : ∀ i : Nat, i < m.length → wrap64 (pd m B i + rd A (i : Int)) = pd m B' i) {K : Nat} {x1 M : List S58} {T' X' x35 x36 z0 z1 z2 a0 a1 a2 : Int} {z3 z4 a4 : List Int}
    (hl0 : ∀ k, K ≤ k → paymasterlaw14_WithholdYear.l0 k x1 T' B' X' (pds m B') M x35 (wrap64 (x36 + 1)) l m z0 z1 z2 z3 z4 = some true) (d : Nat) : ∀ (k j : Nat) (L : List Int), j + d = m.length → d + K + 1 ≤ k → L.length = m.length → (∀ i : Nat, i < j → rd L (i : Int) = pd m B' i) → (∀ i : Nat, j ≤ i → i < m.length → rd L (i : Int) = pd m B i) →
    paymasterlaw14_WithholdYear.l1 k x1 T' B' X' L M x35 x36 (m.length : Int) (j : Int) l m z0 z1 z2 z3 z4 a0 a1 a2 A a4 = some true := by
  have m6 := h.2.1
  induction d with
  | zero =>
    intro k j L hj hk hL h1 h2
    obtain ⟨k, rfl⟩ : ∃ q, k = q + 1 := ⟨k - 1, by omega⟩
    simp only [paymasterlaw14_WithholdYear.l1]
    rw [if_neg (by omega), list_rd (L := L) (M := pds m B') (by rw [hL, pds_len]) (fun i hi => by rw [h1 i (by omega), pds_rd (by omega)])]
    exact hl0 k (by omega)
  | succ d ih =>
    intro k j L hj hk hL h1 h2
    obtain ⟨k, rfl⟩ : ∃ q, k = q + 1 := ⟨k - 1, by omega⟩
    have p0 := (pd_bd (h.2.2 j (by omega)) B').1
    have := ih k (j + 1) (L.set j (pd m B' j)) (by omega) (by omega) (by simp; omega) (fun i hi => by
      rw [rd_set (by omega)]
      by_cases e : i = j
      · rw [if_pos e, e]
      · rw [if_neg e]; exact h1 i (by omega)) (fun i hi hm => by
      rw [rd_set (by omega), if_neg (by omega)]; exact h2 i (by omega) hm)
    rw [show ((j + 1 : Nat) : Int) = (j : Int) + 1 by omega] at this
    simp only [paymasterlaw14_WithholdYear.l1]
    rw [if_pos (by omega), if_pos (by omega), if_pos (by omega), if_pos (by omega), h2 j (Nat.le_refl _) (by omega), hA j (by omega), if_neg (by omega), w64 (by omega) (by omega), Int.toNat_natCast]
    exact this
theorem year_cmp {l : List S58} {m : List S41} (h : SR l m) {B : Int} {x1 : List S58} {t b x : Int} {P O : List Int} (hx : x1.length = 0 ∨ (P = pds m B ∧ O = ows m B)) (d : Nat) : ∀ (k j : Nat), j + d = m.length → d + 401 ≤ k →
    paymasterlaw14_WithholdYear.l2 k x1 (pds m B) (m.length : Int) (j : Int) t b x P O t b x (pds m B) (ows m B) = some true := by
  have m6 := h.2.1
  induction d with
  | zero =>
    intro k j hj hk
    obtain ⟨k, rfl⟩ : ∃ q, k = q + 1 := ⟨k - 1, by omega⟩
    simp only [paymasterlaw14_WithholdYear.l2]
    rw [if_neg (by omega)]
    by_cases c : (x1.length : Int) = 0
    · rw [if_pos c, awake_eq (by omega)]
      rfl
    · rw [if_neg c]
      obtain ⟨rfl, rfl⟩ := hx.resolve_left (by omega)
      rw [same_eq (by rw [pds_len]; omega) (by rw [ows_len]; omega) (by omega), Option.bind_some, if_pos rfl, awake_eq (by omega)]
      rfl
  | succ d ih =>
    intro k j hj hk
    obtain ⟨k, rfl⟩ : ∃ q, k = q + 1 := ⟨k - 1, by omega⟩
    have := ih k (j + 1) (by omega) (by omega)
    rw [show ((j + 1 : Nat) : Int) = (j : Int) + 1 by omega] at this
    simp only [paymasterlaw14_WithholdYear.l2]
    rw [if_pos (by omega), if_pos (by omega), pds_len, if_pos (by omega), if_pos (by omega), if_pos trivial, w64 (by omega) (by omega)]
    exact this
theorem near {x : Int} (h0 : -26388279066624 ≤ x) (h1 : x ≤ 26388279066624) : ¬ Far x := by unfold Far; omega
open Classical in
theorem year_loop {l : List S58} {m : List S41} (h : SR l m) {M : List S58} (hM : M.length ≤ 24) (d : Nat) : ∀ (k n : Nat) (T B : Int) (P O : List Int), n + d = M.length → 10 * d + 500 ≤ k → -(n * 1099511627776 : Int) ≤ T → T ≤ n * 1099511627776 → -(n * 1099511627776 : Int) ≤ B → B ≤ n * 1099511627776 →
    ((P = pds m B ∧ O = ows m B) ∨ (n = 0 ∧ P = [] ∧ O = [] ∧ T = 0 ∧ B = 0)) →
    paymasterlaw14_WithholdYear.l0 k M T B (tx l T l.length) (pds m B) M (M.length : Int) (n : Int) l m T B (tx l T l.length) P O = some true := by
  have m6 := h.2.1
  induction d with
  | zero =>
    intro k n T B P O hn hk t0 t1 b0 b1 hy
    obtain ⟨k, rfl⟩ : ∃ q, k = q + 1 := ⟨k - 1, by omega⟩
    have nT := near (x := T) (by omega) (by omega)
    have nB := near (x := B) (by omega) (by omega)
    simp only [paymasterlaw14_WithholdYear.l0]
    rw [if_neg (by omega), due_yes' h (by omega) nT nB, Option.bind_some]
    dsimp only
    rw [if_pos rfl, if_pos rfl, bne_self_eq_false]
    obtain ⟨k, rfl⟩ : ∃ q, k = q + 1 := ⟨k - 1, by omega⟩
    simp only [paymasterlaw14_WithholdYear.j4]
    rw [if_neg (by simp), pds_len]
    exact year_cmp h (hy.imp_right (fun z => z) |>.elim (fun z => Or.inr z) (fun z => Or.inl (by omega))) m.length k 0 (by omega) (by omega)
  | succ d ih =>
    intro k n T B P O hn hk t0 t1 b0 b1 hy
    obtain ⟨k, rfl⟩ : ∃ q, k = q + 1 := ⟨k - 1, by omega⟩
    obtain ⟨K, hK⟩ : ∃ K : Nat, K = 10 * d + 500 := ⟨_, rfl⟩
    have kk : m.length + K + 2 ≤ k := by omega
    simp only [paymasterlaw14_WithholdYear.l0]
    rw [if_pos (by omega), if_pos (by omega), if_pos (by omega)]
    have t2 := tmod_bd (rd_T58 M (n : Int)).f0
    have b2 := tmod_bd (rd_T58 M (n : Int)).f1
    generalize Int.tmod (rd_T58 M (n : Int)).f0 1099511627776 = t at t2 ⊢
    generalize Int.tmod (rd_T58 M (n : Int)).f1 1099511627776 = b at b2 ⊢
    have n24 : (n : Int) ≤ 23 := by omega
    have fit : Fit m P O := by
      rcases hy with ⟨rfl, rfl⟩ | ⟨_, rfl, rfl, _⟩
      · exact ⟨Or.inr (pds_len m B), Or.inr (ows_len m B)⟩
      · exact ⟨Or.inl rfl, Or.inl rfl⟩
    have bt := tx_bd h.1 T l.length (Nat.le_refl _)
    have bt' := tx_bd h.1 (T + t) l.length (Nat.le_refl _)
    rw [cov_top] at bt bt'
    rw [step_yes h (by omega) (near (by omega) (by omega)) (near (by omega) (by omega)) (near (by omega) (by omega)) (near (by omega) (by omega)) (near (by omega) (by omega)) (near (by omega) (by omega)), if_pos fit, Option.bind_some]
    dsimp only
    have ll : (lss (pds m (B + b)) P).length = m.length := by simp [lss, pds_len]
    rw [if_pos rfl, ll, pds_len, if_pos rfl, w64 (x := tx l (T + t) l.length - tx l T l.length) (by omega) (by omega), show tx l T l.length + (tx l (T + t) l.length - tx l T l.length) = tx l (T + t) l.length by omega, w64 (x := tx l (T + t) l.length) (by omega) (by omega), w64 (x := T + t) (by omega) (by omega), w64 (x := B + b) (by omega) (by omega), if_neg (by omega), mx_max, decide_eq_false (by omega)]
    obtain ⟨k, rfl⟩ : ∃ q, k = q + 1 := ⟨k - 1, by omega⟩
    simp only [paymasterlaw14_WithholdYear.j2]
    rw [if_neg (by simp), pds_len]
    rw [show (0 : Int) = ((0 : Nat) : Int) from rfl]
    have e0 : m.length + K + 1 ≤ k := by omega
    refine year_add h (B := B) (B' := B + b) (A := lss (pds m (B + b)) P) ll (fun i hi => ?_) (K := K) (fun k' hk' => ?_) m.length k 0 (pds m B) (Nat.zero_add _) e0 (pds_len m B) (fun i hi => absurd hi (Nat.not_lt_zero _)) (fun i _ hi => pds_rd hi B)
    · have f := h.2.2 i hi
      have p := pd_bd f B
      have p' := pd_bd f (B + b)
      rw [show rd (lss (pds m (B + b)) P) (i : Int) = ls (pds m (B + b)) P i from map_at _ (by rw [pds_len]; exact hi)]
      unfold ls
      rw [pds_rd hi]
      rcases hy with ⟨rfl, rfl⟩ | ⟨_, rfl, rfl, _, rfl⟩
      · rw [if_pos (by rw [pds_len]; omega), pds_rd hi, w64 (x := pd m (B + b) i - pd m B i) (by omega) (by omega), w64 (by omega) (by omega)]
        omega
      · rw [if_neg (by simp), w64 (by omega) (by omega)]
        omega
    · have := ih k' (n + 1) (T + t) (B + b) (pds m (B + b)) (ows m (B + b)) (by omega) (by omega) (by omega) (by omega) (by omega) (by omega) (Or.inl ⟨rfl, rfl⟩)
      rw [show ((n + 1 : Nat) : Int) = (n : Int) + 1 by omega] at this
      rw [w64 (x := (n : Int) + 1) (by omega) (by omega)]
      exact this
open Classical in
theorem WithholdYear_f (l : List S58) (m : List S41) (M : List S58) : ∃ k, paymasterlaw14_WithholdYear.f k l m M = some true := by
  obtain ⟨k, hk⟩ : ∃ k : Nat, 2000 ≤ k := ⟨2000, Nat.le_refl _⟩
  refine ⟨k, ?_⟩
  obtain ⟨k, rfl⟩ : ∃ j, k = j + 1 := ⟨k - 1, by omega⟩
  have no : paymasterlaw14_WithholdYear.j0 (k + 1) M true l m = some true := by
    simp only [paymasterlaw14_WithholdYear.j0]
    rw [if_pos trivial, awake_eq (by omega)]
    rfl
  unfold paymasterlaw14_WithholdYear.f
  rw [small_eq, Option.bind_some]
  by_cases sm : l.length ≤ 40 ∧ m.length ≤ 40
  · rw [decide_eq_true sm, if_pos rfl]
    by_cases hM : (M.length : Int) > 24
    · rw [decide_eq_true hM, no]
    rw [decide_eq_false hM]
    simp only [paymasterlaw14_WithholdYear.j0]
    rw [if_neg (by simp), if_pos (by omega), if_pos (by omega), Int.toNat_natCast]
    by_cases h : SR l m
    · have e1 : tx l 0 l.length = 0 := tx_zero h.1
      have e2 : pds m 0 = List.replicate m.length 0 := by
        have z := pds_zero h
        exact List.eq_replicate_iff.2 ⟨pds_len m 0, z⟩
      have := year_loop h (M := M) (by omega) M.length k 0 0 0 [] [] (by omega) (by omega) (by omega) (by omega) (by omega) (by omega) (Or.inr ⟨rfl, rfl, rfl, rfl, rfl⟩)
      rw [e1, e2] at this
      exact this
    · obtain ⟨k, rfl⟩ : ∃ j, k = j + 1 := ⟨k - 1, by omega⟩
      simp only [paymasterlaw14_WithholdYear.l0]
      by_cases hn : (0 : Int) < (M.length : Int)
      · rw [if_pos hn, if_pos (by omega), if_pos hn, step_no h (by omega) (by omega) (by omega) (by omega), Option.bind_some]
        dsimp only
        rw [if_neg (by omega), if_pos rfl, scheme_eq (by omega) (by omega) (by omega) (by omega), decide_eq_false h, Option.bind_some, if_neg (by simp), awake_eq (by omega)]
        rfl
      · rw [if_neg hn, due_no h (by omega) (by omega) (by omega) (by omega), Option.bind_some]
        dsimp only
        rw [if_neg (by omega), if_pos (by omega), awake_eq (by omega)]
        rfl
  · rw [decide_eq_false sm, if_neg (by simp), no]
theorem WithholdYear_walk (A0 : Option Addr) (l : List S58) (c0 : Nat) (A1 : Option Addr) (m : List S41) (c1 : Nat) (A2 : Option Addr) (M : List S58) (c2 : Nat) (w : World) (h0 : Kd.C k58 w A0 l.length l) (n0 : l.length ≤ c0) (h1 : Kd.C k41 w A1 m.length m) (n1 : m.length ≤ c1) (h2 : Kd.C k58 w A2 M.length M) (n2 : M.length ≤ c2) :
    Calls Try.prog 7 #[.agg #[.slice A0 l.length c0, .slice A1 m.length c1], .slice A2 M.length c2] w fun e w' => e = .returned (.bool true) ∧ Below w.heap.size w w' := by
  obtain ⟨k, h⟩ := WithholdYear_f l m M
  refine (paymasterlaw14_WithholdYear.calls k A0 c0 l A1 c1 m A2 c2 M true w h0 n0 h1 n1 h2 n2 h).mono ?_
  rintro e w' ⟨rfl, hd⟩
  exact ⟨rfl, hd⟩
end Go.Proofs.Ytocaneaofdbpoaa.Pure
