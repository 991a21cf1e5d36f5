/- Plain laws of the reference's product and quotient of decimal digits. -/
import Derived.Test.YtocaneaofdbpoaaBg
set_option linter.unusedVariables false
namespace Go.Proofs.Ytocaneaofdbpoaa.Wd
open Go.RowKit Go.Proofs.Ytocaneaofdbpoaa.PA Go.Proofs.YtocaneaofdbpoaaW.PrintWords Go.Proofs.YtocaneaofdbpoaaW.PrintMore

/-- Trimmed lists of digits of one value are one list. -/
theorem tr_tail {d : Int} {l : List Int} (h : Tr (d :: l)) : Tr l := ⟨fun x hx => h.1 x (by simp [hx]), fun hn => by
  have := h.2 (by simp)
  rwa [List.getLast_cons hn] at this⟩
theorem tr_inj : ∀ {l m : List Int}, Tr l → Tr m → val l = val m → l = m
  | [], [], _, _, _ => rfl
  | [], d :: m, _, h, e => by have := val_pos h (by simp); simp only [val] at e this; omega
  | d :: l, [], h, _, e => by have := val_pos h (by simp); simp only [val] at e this; omega
  | d :: l, d' :: m, h, h', e => by
    have a := h.1 d (by simp)
    have a' := h'.1 d' (by simp)
    simp only [val] at e
    rw [tr_inj (tr_tail h) (tr_tail h') (by omega), show d = d' by omega]

/-- All entries lie from 0 to E. -/
def Bd (E : Int) (l : List Int) : Prop := ∀ m : Nat, 0 ≤ l.getD m 0 ∧ l.getD m 0 ≤ E
theorem bd_mono {E F : Int} {l : List Int} (h : Bd E l) (g : E ≤ F) : Bd F l := fun m => ⟨(h m).1, Int.le_trans (h m).2 g⟩
theorem bd_set {E : Int} {l : List Int} {n : Nat} {v : Int} (h : Bd E l) (hn : n < l.length) (v0 : 0 ≤ v) (v1 : v ≤ E) : Bd E (l.set n v) := fun m => by
  rw [at_set l v hn]
  split
  · exact ⟨v0, v1⟩
  · exact h m
theorem dg_of_bd {l : List Int} (h : Bd 9 l) : Dg l := fun x hx => by
  obtain ⟨i, hi, rfl⟩ := List.mem_iff_getElem.1 hx
  rw [← getD_at hi]
  exact h i

section
variable {a b : List Int} {ma mb : Bool} {R : Bool × List Int} (ha : Dg a) (hb : Dg b) (la : a.length ≤ 1000) (lb : b.length ≤ 1000)
include ha hb la lb
theorem mul_inner {K i : Nat} (hi : i < a.length) (d : Nat) : ∀ (k : Nat) (x : List Int) (j : Nat) (E : Int), j + d = b.length → K + d + 1 ≤ k → x.length = a.length + b.length + 1 → Bd E x → E + 81 * d ≤ 2000000000 →
    (∀ (x' : List Int) (k' : Nat), K ≤ k' → x'.length = a.length + b.length + 1 → Bd (E + 81 * d) x' → val x' = val x + 10 ^ i * a.getD i 0 * (val b - val (b.take j)) → paymasterref02_Mul.l0 k' x' ((i : Int) + 1) ma a mb b = some R) →
    paymasterref02_Mul.l1 k x (i : Int) (j : Int) ma a mb b = some R := by
  induction d with
  | zero =>
    intro k x j E hj hk hx hE hF hc
    obtain ⟨k, rfl⟩ : ∃ z, k = z + 1 := ⟨k - 1, by omega⟩
    simp only [paymasterref02_Mul.l1]
    rw [if_neg (by omega), w64 (by omega) (by omega)]
    refine hc x k (by omega) hx (bd_mono hE (by omega)) ?_
    rw [List.take_of_length_le (by omega), Int.sub_self, Int.mul_zero, Int.add_zero]
  | succ d ih =>
    intro k x j E hj hk hx hE hF hc
    obtain ⟨k, rfl⟩ : ∃ z, k = z + 1 := ⟨k - 1, by omega⟩
    have da := dg_at ha i
    have db := dg_at hb j
    have ex := hE (i + j)
    have pb : 0 ≤ a.getD i 0 * b.getD j 0 ∧ a.getD i 0 * b.getD j 0 ≤ 81 := ⟨Int.mul_nonneg da.1 db.1, Int.le_trans (Int.mul_le_mul da.2 db.2 db.1 (by omega)) (by omega)⟩
    simp only [paymasterref02_Mul.l1]
    rw [w64 (x := (i : Int) + (j : Int)) (by omega) (by omega), show (i : Int) + (j : Int) = ((i + j : Nat) : Int) by omega, rd_nat, rd_nat, rd_nat, Int.toNat_natCast]
    rw [if_pos (by omega), if_pos (by omega), if_pos (by omega), if_pos (by omega), if_pos (by omega), if_pos (by omega)]
    rw [w64 (x := a.getD i 0 * b.getD j 0) (by omega) (by omega), w64 (x := x.getD (i + j) 0 + a.getD i 0 * b.getD j 0) (by omega) (by omega), w64 (x := (j : Int) + 1) (by omega) (by omega), show (j : Int) + 1 = ((j + 1 : Nat) : Int) by omega]
    refine ih k _ (j + 1) (E + 81) (by omega) (by omega) (by rw [List.length_set]; exact hx) (bd_set (bd_mono hE (by omega)) (by omega) (by omega) (by omega)) (by omega) (fun x' k' h1 h2 h3 h4 => hc x' k' h1 h2 (bd_mono h3 (by omega)) ?_)
    rw [h4, val_set _ _ _ (by omega), val_take, Int.pow_add]
    grind
theorem mul_outer {K : Nat} (d : Nat) : ∀ (k : Nat) (x : List Int) (i : Nat) (E : Int), i + d = a.length → K + d * (b.length + 2) + 1 ≤ k → x.length = a.length + b.length + 1 → Bd E x → 0 ≤ E → E + 81000 * d ≤ 1000000000 → val x = val (a.take i) * val b →
    (∀ (x' : List Int) (k' : Nat), K ≤ k' → x'.length = a.length + b.length + 1 → Bd 1000000000 x' → val x' = val a * val b → paymasterref02_Mul.l2 k' x' 0 ma a mb b = some R) →
    paymasterref02_Mul.l0 k x (i : Int) ma a mb b = some R := by
  induction d with
  | zero =>
    intro k x i E hi hk hx hE h0 hF hv hc
    obtain ⟨k, rfl⟩ : ∃ z, k = z + 1 := ⟨k - 1, by omega⟩
    simp only [paymasterref02_Mul.l0]
    rw [if_neg (by omega)]
    refine hc x k (by omega) hx (bd_mono hE (by omega)) ?_
    rw [hv, List.take_of_length_le (by omega)]
  | succ d ih =>
    intro k x i E hi hk hx hE h0 hF hv hc
    obtain ⟨k, rfl⟩ : ∃ z, k = z + 1 := ⟨k - 1, by omega⟩
    rw [Nat.succ_mul] at hk
    simp only [paymasterref02_Mul.l0]
    rw [if_pos (by omega)]
    refine mul_inner ha hb la lb (K := K + d * (b.length + 2) + 1) (by omega) b.length k x 0 E (by omega) (by omega) hx hE (by omega) (fun x' k' h1 h2 h3 h4 => ?_)
    have := ih k' x' (i + 1) (E + 81000) (by omega) h1 h2 (bd_mono h3 (by omega)) (by omega) (by omega) (by
      rw [h4, hv, val_take, List.take_zero]
      simp only [val]
      grind) hc
    rwa [show ((i + 1 : Nat) : Int) = (i : Int) + 1 by omega] at this
omit ha hb la lb in
theorem carry {N : Nat} (hN : N ≤ 3000) (hfin : val a * val b < 10 ^ N) (d : Nat) : ∀ (k : Nat) (x : List Int) (i : Nat), i + d = N → d + 3010 ≤ k → x.length = N + 1 → val x = val a * val b → (∀ m : Nat, 0 ≤ x.getD m 0 ∧ (m < i → x.getD m 0 ≤ 9) ∧ (m = i → x.getD m 0 ≤ 2000000000) ∧ (i < m → x.getD m 0 ≤ 1000000000)) →
    ∃ t, paymasterref02_Mul.l2 k x (i : Int) ma a mb b = some ((ma != mb) && decide (0 < (t.length : Int)), t) ∧ Tr t ∧ val t = val a * val b := by
  induction d with
  | zero =>
    intro k x i hi hk hx hv hE
    obtain ⟨k, rfl⟩ : ∃ z, k = z + 1 := ⟨k - 1, by omega⟩
    simp only [paymasterref02_Mul.l2]
    rw [w64 (by omega) (by omega), if_neg (by omega)]
    have top : x.getD N 0 = 0 := by
      have t := take_at (l := x) (n := N) (by omega)
      rw [List.take_of_length_le (by omega)] at t
      have v := val_append (x.take N) [x.getD N 0]
      rw [← t, val_one, List.length_take, Nat.min_eq_left (by omega)] at v
      have dt : Dg (x.take N) := dg_of_bd (fun m => by
        by_cases z : m < N
        · have e : (x.take N).getD m 0 = x.getD m 0 := by
            rw [List.getD_eq_getElem?_getD, List.getElem?_take, if_pos z, List.getD_eq_getElem?_getD]
          rw [e]
          exact ⟨(hE m).1, (hE m).2.1 (by omega)⟩
        · rw [List.getD_eq_getElem?_getD, List.getElem?_eq_none (by rw [List.length_take]; omega)]
          simp)
      have p := p10 N
      have b0 := (val_bd dt).1
      have e0 := (hE N).1
      by_cases z : x.getD N 0 = 0
      · exact z
      · have := Int.mul_le_mul_of_nonneg_left (show 1 ≤ x.getD N 0 by omega) (show (0 : Int) ≤ 10 ^ N by omega)
        omega
    have dx : Dg x := dg_of_bd (fun m => by
      refine ⟨(hE m).1, ?_⟩
      by_cases z : m < i
      · exact (hE m).2.1 z
      · by_cases y : m = N
        · rw [y, top]; omega
        · rw [List.getD_eq_getElem?_getD, List.getElem?_eq_none (by omega)]
          simp)
    obtain ⟨t, e1, tr, v, _⟩ := trim_eq x.length k x rfl dx (by omega) (by omega)
    refine ⟨t, ?_, tr, by rw [v, hv]⟩
    unfold paymasterref02_trim.f
    rw [e1]
    simp only [Option.bind_some]
    by_cases h : (ma != mb) = true
    · rw [if_pos h, h, Bool.true_and]
    · rw [if_neg h, Bool.not_eq_true _ |>.mp h, Bool.false_and]
  | succ d ih =>
    intro k x i hi hk hx hv hE
    obtain ⟨k, rfl⟩ : ∃ z, k = z + 1 := ⟨k - 1, by omega⟩
    have e0 := hE i
    have e1 := hE (i + 1)
    have e0' := e0.2.2.1 rfl
    have e1' := e1.2.2.2 (by omega)
    simp only [paymasterref02_Mul.l2]
    rw [w64 (x := (i : Int) + 1) (by omega) (by omega), show (i : Int) + 1 = ((i + 1 : Nat) : Int) by omega, rd_nat, rd_nat, Int.toNat_natCast, Int.toNat_natCast]
    rw [if_pos (by omega), if_pos (by omega), if_pos (by omega), if_pos (by omega)]
    simp only [Option.bind_some]
    rw [Int.tdiv_eq_ediv_of_nonneg e0.1, w64 (x := x.getD i 0 / 10) (by omega) (by omega), w64 (x := x.getD (i + 1) 0 + x.getD i 0 / 10) (by omega) (by omega), rd_nat, at_set _ _ (by omega), if_neg (by omega), Int.tmod_eq_emod_of_nonneg e0.1]
    refine ih k _ (i + 1) (by omega) (by omega) (by rw [List.length_set, List.length_set]; exact hx) ?_ (fun m => ?_)
    · rw [val_set _ _ _ (by rw [List.length_set]; omega), val_set _ _ _ (by omega), at_set _ _ (by omega), if_neg (by omega), p10s, ← hv]
      have : x.getD i 0 = 10 * (x.getD i 0 / 10) + x.getD i 0 % 10 := by omega
      grind
    · rw [at_set _ _ (by rw [List.length_set]; omega), at_set _ _ (by omega)]
      have em := hE m
      by_cases z : m = i
      · rw [if_pos z]
        omega
      · rw [if_neg z]
        by_cases y : m = i + 1
        · rw [if_pos y]
          omega
        · rw [if_neg y]
          refine ⟨em.1, fun h => em.2.1 (by omega), fun h => absurd h y, fun h => em.2.2.2 (by omega)⟩
theorem mul_eq {k : Nat} (la' : a.length ≤ 40) (lb' : b.length ≤ 40) (hk : 6000 ≤ k) : ∃ t, paymasterref02_Mul.f k ma a mb b = some ((ma != mb) && decide (0 < (t.length : Int)), t) ∧ Tr t ∧ val t = val a * val b := by
  have va := val_bd ha
  have vb := val_bd hb
  have fin : val a * val b < 10 ^ (a.length + b.length) := by
    rw [Int.pow_add]
    exact Int.lt_of_le_of_lt (Int.mul_le_mul_of_nonneg_right (Int.le_of_lt va.2) vb.1) (Int.mul_lt_mul_of_pos_left vb.2 (p10 _))
  have go : ∀ k' (x' : List Int), 4000 ≤ k' → x'.length = a.length + b.length + 1 → Bd 1000000000 x' → val x' = val a * val b → ∃ t, paymasterref02_Mul.l2 k' x' 0 ma a mb b = some ((ma != mb) && decide (0 < (t.length : Int)), t) ∧ Tr t ∧ val t = val a * val b := fun k' x' h h' hB hv =>
    carry (N := a.length + b.length) (by omega) fin (a.length + b.length) k' x' 0 (by omega) (by omega) h' hv (fun m => ⟨(hB m).1, fun z => absurd z (by omega), fun _ => by have := (hB m).2; omega, fun _ => (hB m).2⟩)
  unfold paymasterref02_Mul.f
  rw [w64 (x := (a.length : Int) + (b.length : Int)) (by omega) (by omega), w64 (by omega) (by omega), if_pos (by omega), show ((a.length : Int) + (b.length : Int) + 1).toNat = a.length + b.length + 1 by omega, if_pos (by omega)]
  have z0 : val (List.replicate (a.length + b.length + 1) 0) = 0 := by
    generalize a.length + b.length + 1 = n
    induction n with
    | zero => rfl
    | succ n ih => rw [List.replicate_succ]; simp only [val, ih]; omega
  have zb : Bd 0 (List.replicate (a.length + b.length + 1) 0) := fun m => by
    rw [List.getD_eq_getElem?_getD, List.getElem?_replicate]
    split <;> simp
  -- the product's list is the same for whatever number of rounds: it is named first
  obtain ⟨R, hR, q⟩ : ∃ R, paymasterref02_Mul.l0 k (List.replicate (a.length + b.length + 1) 0) 0 ma a mb b = some R ∧ ∃ t, R = ((ma != mb) && decide (0 < (t.length : Int)), t) ∧ Tr t ∧ val t = val a * val b := by
    have hkk : 4000 + a.length * (b.length + 2) + 1 ≤ k := by
      have := Nat.mul_le_mul la' (show b.length + 2 ≤ 42 by omega)
      omega
    obtain ⟨n, hn⟩ : ∃ n : List Int, n = dgs (a.length + b.length) (val a * val b) := ⟨_, rfl⟩
    have dn := dgs_eq (a.length + b.length) (val a * val b) (Int.mul_nonneg va.1 vb.1) fin
    rw [← hn] at dn
    refine ⟨((ma != mb) && decide (0 < (n.length : Int)), n), ?_, n, rfl, dn.1, dn.2.1⟩
    refine mul_outer ha hb la lb (K := 4000) a.length k _ 0 0 (by omega) hkk (by simp) zb (by omega) (by omega) (by rw [z0]; simp [val]) (fun x' k' h1 h2 h3 h4 => ?_)
    obtain ⟨t, e, tr, v⟩ := go k' x' h1 h2 h3 h4
    have : t = n := tr_inj tr dn.1 (by rw [v, dn.2.1])
    rw [e, this]
  obtain ⟨t, rfl, tr, v⟩ := q
  exact ⟨t, hR, tr, v⟩
end
end Go.Proofs.Ytocaneaofdbpoaa.Wd
