/- Plain law of the reference's MulDiv: it is the rounded quotient of the sizes with its sign, or no amount. -/
import Derived.Test.YtocaneaofdbpoaaBm
set_option linter.unusedVariables false
namespace Go.Proofs.Ytocaneaofdbpoaa.Wd
open Go.RowKit Go.Proofs.Ytocaneaofdbpoaa.PA Go.Proofs.YtocaneaofdbpoaaW.PrintWords Go.Proofs.YtocaneaofdbpoaaW.PrintMore

theorem double_of {k : Nat} {l : List Int} {m s : Bool} {L t : List Int} (e : paymasterref02_Of.f k 2 = some (m, L)) (e1 : paymasterref02_Mul.f k false l m L = some (s, t)) : paymasterref02_double.f k l = some t := by
  unfold paymasterref02_double.f
  rw [e, Option.bind_some]
  show (paymasterref02_Mul.f k false l m L).bind _ = _
  rw [e1, Option.bind_some]
theorem double_eq {k : Nat} (hk : 7000 ≤ k) {l : List Int} (h : Dg l) (hl : l.length ≤ 40) : ∃ t, paymasterref02_double.f k l = some t ∧ Tr t ∧ val t = 2 * val l := by
  obtain ⟨L, e, tr, v, len⟩ := of_eq (k := k) (by omega) (n := 2) (by omega) (by omega)
  generalize decide ((2 : Int) < 0) = m at e
  obtain ⟨t, e1, t1, v1⟩ := mul_eq (k := k) (ma := false) (mb := m) h tr.1 (by omega) (by omega) hl (by omega) (by omega)
  refine ⟨t, double_of e e1, t1, ?_⟩
  rw [v1, v, show ab 2 = 2 from rfl, Int.mul_comm]

/-- Horner's value of digits, the highest first, from n on. -/
def hv (n : Int) : List Int → Int
  | [] => n
  | d :: l => hv (10 * n + d) l
theorem hv_le {l : List Int} (h : Dg l) : ∀ n : Int, 0 ≤ n → n ≤ hv n l := by
  induction l with
  | nil => intro n _; exact Int.le_refl _
  | cons d l ih =>
    intro n hn
    have a := h d (by simp)
    have := ih (fun x hx => h x (by simp [hx])) (10 * n + d) (by omega)
    simp only [hv]
    omega
theorem hv_snoc (l : List Int) (d : Int) : ∀ n : Int, hv n (l ++ [d]) = 10 * hv n l + d := by
  induction l with
  | nil => intro n; rfl
  | cons x l ih => intro n; simp only [List.cons_append, hv, ih]

/-- The end of it: one more, or not; the sign. -/
def fin (T : Int) (more s : Bool) : Int × Bool :=
  if 9223372036854775807 < T + (if more then 1 else 0) then (0, false) else (if s then -(T + (if more then 1 else 0)) else T + (if more then 1 else 0), true)
theorem horner {D : List Int} (hD : Dg D) (hl : D.length ≤ 1000) (more p m : Bool) (P B : List Int) (e : Nat) : ∀ (k : Nat) (n : Int) (i : Nat), i + e = D.length → 0 ≤ n → n ≤ 9223372036854775807 → e < k →
    paymasterref02_MulDiv.l2 k D more n (i : Int) p P m B = some (fin (hv n (D.drop i)) more (p != m)) := by
  induction e with
  | zero =>
    intro k n i hi h0 h1 hk
    obtain ⟨k, rfl⟩ : ∃ z, k = z + 1 := ⟨k - 1, by omega⟩
    simp only [paymasterref02_MulDiv.l2]
    rw [if_neg (by omega), List.drop_of_length_le (by omega)]
    simp only [hv]
    unfold fin
    cases more with
    | true =>
      simp only [if_true]
      by_cases z : n = 9223372036854775807
      · rw [if_pos z, if_pos (by omega)]
      · rw [if_neg z, if_neg (show ¬ 9223372036854775807 < n + 1 by omega), w64 (x := n + 1) (by omega) (by omega), w64 (x := -(n + 1)) (by omega) (by omega)]
        cases (p != m) <;> rfl
    | false =>
      simp only [Bool.false_eq_true, if_false, Int.add_zero]
      rw [if_neg (show ¬ 9223372036854775807 < n by omega), w64 (x := -n) (by omega) (by omega)]
      cases (p != m) <;> rfl
  | succ e ih =>
    intro k n i hi h0 h1 hk
    obtain ⟨k, rfl⟩ : ∃ z, k = z + 1 := ⟨k - 1, by omega⟩
    have d := dg_at hD i
    simp only [paymasterref02_MulDiv.l2]
    rw [if_pos (by omega), if_pos (by omega), rd_nat, w64 (x := 9223372036854775807 - D.getD i 0) (by omega) (by omega), Int.tdiv_eq_ediv_of_nonneg (by omega), w64 (x := (9223372036854775807 - D.getD i 0) / 10) (by omega) (by omega)]
    rw [drop_at (by omega)]
    simp only [hv]
    by_cases z : n > (9223372036854775807 - D.getD i 0) / 10
    · rw [if_pos z]
      have := hv_le (l := D.drop (i + 1)) (dg_drop hD _) (10 * n + D.getD i 0) (by omega)
      unfold fin
      rw [if_pos (by split <;> omega)]
    · rw [if_neg z, w64 (x := 10 * n) (by omega) (by omega), w64 (x := 10 * n + D.getD i 0) (by omega) (by omega), w64 (x := (i : Int) + 1) (by omega) (by omega), show (i : Int) + 1 = ((i + 1 : Nat) : Int) by omega]
      exact ih k _ (i + 1) (by omega) (by omega) (by omega) (by omega)

section
variable {B P : List Int} {c mode : Int} {ms mp mb : Bool} (hB : Tr B) (hc : val B = c) (c0 : 0 < c) (c1 : c ≤ 9223372036854775808)
include hB hc c0 c1
theorem lenB : B.length ≤ 20 := len_lt_of_val hB (n := 20) (by rw [hc]; omega)
theorem muldiv_end' (hm : 0 ≤ mode) (hm' : mode ≤ 3) {D L : List Int} (hD : Dg D) (lD : D.length ≤ 1000) (hL : Tr L) (lL : L.length ≤ 40) (l0 : val L < c) {odd : Bool} (ho : odd = decide (hv 0 D % 2 = 1)) {k : Nat} (hk : 9000 ≤ k) :
    paymasterref02_MulDiv.j2 k mode L D odd mp P mb B = some (fin (hv 0 D) (decide (More mode (hv 0 D) (val L) c)) (mp != mb)) := by
  obtain ⟨k, rfl⟩ : ∃ z, k = z + 2 := ⟨k - 2, by omega⟩
  have v0 := (val_bd hL.1).1
  obtain ⟨t, e, tt, v⟩ := double_eq (k := k + 1) (by omega) hL.1 lL
  have lB := lenB hB hc c0 c1
  have lt := len_lt_of_val tt (n := 21) (by rw [v]; omega)
  have sz := size_eq' (k := k + 1) tt hB (by omega) (by omega) (by omega)
  rw [v, hc] at sz
  have H : ∀ more : Bool, paymasterref02_MulDiv.j3 (k + 1) D more mp P mb B = some (fin (hv 0 D) more (mp != mb)) := fun more => by
    simp only [paymasterref02_MulDiv.j3]
    exact horner hD lD more mp mb P B D.length k 0 0 (by omega) (by omega) (by omega) (by omega)
  have hL0 : (L.length : Int) > 0 ↔ 0 < val L := by
    constructor
    · intro h
      have hn : L ≠ [] := by intro e; rw [e] at h; simp at h
      exact val_pos hL hn
    · intro h
      have hn : L ≠ [] := by intro e; rw [e] at h; simp [val] at h
      have := List.length_pos_iff.2 hn
      omega
  simp only [paymasterref02_MulDiv.j2]
  rw [e]
  simp only [Option.bind_some]
  rw [sz]
  simp only [Option.bind_some]
  rw [H, H, H]
  generalize hv 0 D = T at ho ⊢
  have key : ∀ b : Bool, (b = true ↔ More mode T (val L) c) → some (fin T b (mp != mb)) = some (fin T (decide (More mode T (val L) c)) (mp != mb)) := fun b h => by
    congr 2
    rw [Bool.eq_iff_iff, h, decide_eq_true_eq]
  have sgv : (sg (2 * val L) c = -1 ∧ 2 * val L < c) ∨ (sg (2 * val L) c = 0 ∧ 2 * val L = c) ∨ (sg (2 * val L) c = 1 ∧ c < 2 * val L) := by unfold sg; split <;> (try split) <;> omega
  generalize sg (2 * val L) c = S at sgv ⊢
  have kt : More mode T (val L) c → some (fin T true (mp != mb)) = some (fin T (decide (More mode T (val L) c)) (mp != mb)) := fun h => key true ⟨fun _ => h, fun _ => rfl⟩
  have kf : ¬ More mode T (val L) c → some (fin T false (mp != mb)) = some (fin T (decide (More mode T (val L) c)) (mp != mb)) := fun h => key false ⟨fun e => (by cases e), fun e => absurd e h⟩
  have ko : (T % 2 = 1 ↔ More mode T (val L) c) → some (fin T odd (mp != mb)) = some (fin T (decide (More mode T (val L) c)) (mp != mb)) := fun h => key odd (by rw [ho, decide_eq_true_eq]; exact h)
  clear key H sz e ho
  unfold More at kt kf ko ⊢
  repeat' split
  all_goals first
    | (refine kt ?_; omega)
    | (refine kf ?_; omega)
    | (refine ko ?_; omega)

theorem count {R : Int × Bool} {D : List Int} (lD : D.length ≤ 1000) {K i : Nat} (hi : i ≤ 1000) (hK : 3000 ≤ K) (e : Nat) : ∀ (k : Nat) (L : List Int) (d : Int), Tr L → val L < c * (e + 1) → e ≤ 9 → 0 ≤ d → d + e ≤ 9 → K + e + 1 ≤ k →
    (∀ (L' : List Int) (k' : Nat), K ≤ k' → Tr L' → val L' = val L % c → paymasterref02_MulDiv.l0 k' mode L' (D ++ [d + val L / c]) ((i : Int) - 1) mp P mb B = some R) →
    paymasterref02_MulDiv.l1 k mode L D (i : Int) d mp P mb B = some R := by
  induction e with
  | zero =>
    intro k L d hL hv he d0 d1 hk hR
    obtain ⟨k, rfl⟩ : ∃ z, k = z + 1 := ⟨k - 1, by omega⟩
    have v0 := (val_bd hL.1).1
    have lB := lenB hB hc c0 c1
    have hv' : val L < c := by omega
    have lL := len_lt_of_val hL (n := 20) (by omega)
    simp only [paymasterref02_MulDiv.l1]
    rw [size_eq' hL hB (by omega) (by omega) (by omega), hc]
    simp only [Option.bind_some]
    rw [if_neg (by unfold sg; rw [if_pos hv']; omega), if_pos (by omega), w64 (by omega) (by omega)]
    have := hR L k (by omega) hL (by rw [Int.emod_eq_of_lt v0 hv'])
    rwa [Int.ediv_eq_zero_of_lt v0 hv', Int.add_zero] at this
  | succ e ih =>
    intro k L d hL hv he d0 d1 hk hR
    obtain ⟨k, rfl⟩ : ∃ z, k = z + 1 := ⟨k - 1, by omega⟩
    have v0 := (val_bd hL.1).1
    have lB := lenB hB hc c0 c1
    have lL := len_lt_of_val hL (n := 21) (by
      have := Int.mul_le_mul_of_nonneg_left (show ((e + 1 : Nat) : Int) + 1 ≤ 10 by omega) (show 0 ≤ c by omega)
      omega)
    simp only [paymasterref02_MulDiv.l1]
    rw [size_eq' hL hB (by omega) (by omega) (by omega), hc]
    simp only [Option.bind_some]
    by_cases z : val L < c
    · rw [if_neg (by unfold sg; rw [if_pos z]; omega), if_pos (by omega), w64 (by omega) (by omega)]
      have := hR L k (by omega) hL (by rw [Int.emod_eq_of_lt v0 z])
      rwa [Int.ediv_eq_zero_of_lt v0 z, Int.add_zero] at this
    · rw [if_pos (by unfold sg; rw [if_neg z]; split <;> omega)]
      obtain ⟨t, e1, tt, v⟩ := less_eq (k := k) hL.1 hB (by omega) (by rw [hc]; omega) (by omega)
      rw [e1]
      simp only [Option.bind_some]
      rw [w64 (x := d + 1) (by omega) (by omega)]
      rw [hc] at v
      have em : (val L - c) % c = val L % c := by rw [Int.sub_emod_right]
      have ed : (val L - c) / c = val L / c - 1 := by
        rw [Int.sub_ediv_of_dvd _ (Int.dvd_refl c), Int.ediv_self (by omega)]
      refine ih k t (d + 1) tt (by
        rw [v]
        have : c * (((e + 1 : Nat) : Int) + 1) = c * ((e : Int) + 1) + c := by rw [show ((e + 1 : Nat) : Int) = (e : Int) + 1 by omega]; grind
        omega) (by omega) (by omega) (by omega) (by omega) (fun L' k' h1 h2 h3 => ?_)
      rw [v, em] at h3
      rw [v, ed, show d + 1 + (val L / c - 1) = d + val L / c by omega]
      exact hR L' k' h1 h2 h3

theorem long (hm : 0 ≤ mode) (hm' : mode ≤ 3) (hP : Dg P) (lP : P.length ≤ 60) (n : Nat) : ∀ (k : Nat) (L D : List Int), n ≤ P.length → D.length + n = P.length → Tr L → val L < c → Dg D → val (P.drop n) = hv 0 D * c + val L → 20 * n + 12000 ≤ k →
    paymasterref02_MulDiv.l0 k mode L D ((n : Int) - 1) mp P mb B = some (fin (val P / c) (decide (More mode (val P / c) (val P % c) c)) (mp != mb)) := by
  induction n with
  | zero =>
    intro k L D hn hD hL hlt dD hv0 hk
    obtain ⟨k, rfl⟩ : ∃ z, k = z + 1 := ⟨k - 1, by omega⟩
    have v0 := (val_bd hL.1).1
    have lL := len_lt_of_val hL (n := 20) (by omega)
    rw [List.drop_zero] at hv0
    have eq : val P / c = hv 0 D ∧ val P % c = val L := by
      rw [hv0, Int.add_comm, Int.add_mul_ediv_right _ _ (by omega), Int.add_mul_emod_self_right, Int.ediv_eq_zero_of_lt v0 hlt, Int.emod_eq_of_lt v0 hlt]
      omega
    rw [eq.1, eq.2]
    simp only [paymasterref02_MulDiv.l0]
    rw [if_neg (by omega)]
    by_cases z : (D.length : Int) > 0
    · rw [if_pos z, w64 (by omega) (by omega), if_pos (by omega), if_pos (by omega)]
      obtain ⟨q, hq⟩ : ∃ q, D.length = q + 1 := ⟨D.length - 1, by omega⟩
      rw [hq, show ((q + 1 : Nat) : Int) - 1 = (q : Int) by omega, rd_nat]
      have dq := dg_at dD q
      have tk := take_at (l := D) (n := q) (by omega)
      rw [List.take_of_length_le (by omega)] at tk
      have hs := hv_snoc (D.take q) (D.getD q 0) 0
      rw [← tk] at hs
      rw [Int.tmod_eq_emod_of_nonneg dq.1]
      refine muldiv_end' hB hc c0 c1 hm hm' dD (by omega) hL (by omega) hlt ?_ (by omega)
      rw [Bool.eq_iff_iff, beq_iff_eq, decide_eq_true_eq]
      omega
    · rw [if_neg z]
      have d0 : D = [] := List.eq_nil_of_length_eq_zero (by omega)
      refine muldiv_end' hB hc c0 c1 hm hm' dD (by omega) hL (by omega) hlt ?_ (by omega)
      rw [d0]
      rfl
  | succ n ih =>
    intro k L D hn hD hL hlt dD hv0 hk
    obtain ⟨k, rfl⟩ : ∃ z, k = z + 1 := ⟨k - 1, by omega⟩
    have v0 := (val_bd hL.1).1
    have lL := len_lt_of_val hL (n := 20) (by omega)
    have dn := dg_at hP n
    have dd := drop_at (l := P) (n := n) (by omega)
    simp only [paymasterref02_MulDiv.l0]
    rw [show ((n + 1 : Nat) : Int) - 1 = (n : Int) by omega, if_pos (by omega), if_pos (by omega), if_pos (by omega), if_pos (by simp), rd_nat]
    simp only [Option.bind_some, List.nil_append]
    rw [if_pos (by simp; omega)]
    obtain ⟨t, e1, tt, v, lt⟩ := trim_eq ([P.getD n 0] ++ L).length k ([P.getD n 0] ++ L) rfl (dg_append (dg_one dn.1 dn.2) hL.1) (by simp; omega) (by simp; omega)
    unfold paymasterref02_trim.f
    rw [e1]
    simp only [Option.bind_some]
    have vt : val t = P.getD n 0 + 10 * val L := by rw [v]; rfl
    have t0 := (val_bd tt.1).1
    have q0 : 0 ≤ val t / c := Int.ediv_nonneg t0 (by omega)
    have q9 : val t / c < 10 := Int.ediv_lt_of_lt_mul c0 (by omega)
    refine count hB hc c0 c1 (D := D) (by omega) (K := 20 * n + 12000) (by omega) (by omega) 9 k t 0 tt (by rw [show c * (((9 : Nat) : Int) + 1) = 10 * c from by rw [show (((9 : Nat) : Int) + 1) = 10 from rfl, Int.mul_comm]]; omega) (by omega) (by omega) (by omega) (by omega) (fun L' k' h1 h2 h3 => ?_)
    rw [Int.zero_add]
    refine ih k' L' (D ++ [val t / c]) (by omega) (by simp; omega) h2 (by rw [h3]; exact Int.emod_lt_of_pos _ c0) (dg_append dD (dg_one q0 (by omega))) ?_ (by omega)
    rw [hv_snoc, h3, dd]
    simp only [val]
    rw [hv0]
    have := Int.emod_add_mul_ediv (val t) c
    grind
end

theorem refmd_of {k : Nat} {a b c mode : Int} {sa sb sp sc : Bool} {LA LB LP LC : List Int} {R : Int × Bool} (eA : paymasterref02_Of.f k a = some (sa, LA)) (eB : paymasterref02_Of.f k b = some (sb, LB)) (eP : paymasterref02_Mul.f k sa LA sb LB = some (sp, LP)) (eC : paymasterref02_Of.f k c = some (sc, LC))
    (eR : paymasterref02_MulDiv.l0 k mode [] [] (wrap64 ((LP.length : Int) - 1)) sp LP sc LC = some R) : paymasterref02_MulDiv.f k a b c mode = some R := by
  unfold paymasterref02_MulDiv.f
  rw [eA, Option.bind_some]
  show (paymasterref02_Of.f k b).bind _ = _
  rw [eB, Option.bind_some]
  show (paymasterref02_Mul.f k sa LA sb LB).bind _ = _
  rw [eP, Option.bind_some]
  show (paymasterref02_Of.f k c).bind _ = _
  rw [eC, Option.bind_some]
  exact eR
theorem mul_sizes {a b : Int} (a0 : -9223372036854775808 ≤ a) (a1 : a ≤ 9223372036854775807) (b0 : -9223372036854775808 ≤ b) (b1 : b ≤ 9223372036854775807) : ab a * ab b < 10 ^ 40 := by
  have A : 0 ≤ ab a ∧ ab a ≤ 9223372036854775808 := by unfold ab; split <;> omega
  have B : 0 ≤ ab b ∧ ab b ≤ 9223372036854775808 := by unfold ab; split <;> omega
  have pb : ab a * ab b ≤ 9223372036854775808 * 9223372036854775808 := Int.mul_le_mul A.2 B.2 B.1 (by omega)
  generalize ab a * ab b = p at pb ⊢
  omega
/-- The reference's answer. -/
theorem refmd_eq {k : Nat} (hk : 20000 ≤ k) {a b c mode : Int} (a0 : -9223372036854775808 ≤ a) (a1 : a ≤ 9223372036854775807) (b0 : -9223372036854775808 ≤ b) (b1 : b ≤ 9223372036854775807) (c0 : -9223372036854775808 ≤ c) (c1 : c ≤ 9223372036854775807) (cz : c ≠ 0) (hm : 0 ≤ mode) (hm' : mode ≤ 3) :
    paymasterref02_MulDiv.f k a b c mode = some (if 9223372036854775807 < rq (ab a * ab b) (ab c) mode then (0, false) else (if Neg3 a b c then -rq (ab a * ab b) (ab c) mode else rq (ab a * ab b) (ab c) mode, true)) := by
  obtain ⟨LA, eA, tA, vA, lA⟩ := of_eq (k := k) (by omega) a0 a1
  obtain ⟨LB, eB, tB, vB, lB⟩ := of_eq (k := k) (by omega) b0 b1
  obtain ⟨LC, eC, tC, vC, lC⟩ := of_eq (k := k) (by omega) c0 c1
  have C : 0 < ab c ∧ ab c ≤ 9223372036854775808 := ⟨ab_pos cz, by unfold ab; split <;> omega⟩
  have pb := mul_sizes a0 a1 b0 b1
  unfold Neg3
  generalize decide (a < 0) = sa at eA ⊢
  generalize decide (b < 0) = sb at eB ⊢
  generalize decide (c < 0) = sc at eC ⊢
  obtain ⟨t, e, tt, v⟩ := mul_eq (k := k) (ma := sa) (mb := sb) tA.1 tB.1 (by omega) (by omega) (by omega) (by omega) (by omega)
  rw [vA, vB] at v
  have v0 := (val_bd tt.1).1
  rw [v] at v0
  generalize ab a * ab b = p at *
  have lt : t.length ≤ 40 := len_lt_of_val tt (n := 40) (by rw [v]; exact pb)
  refine refmd_of eA eB e eC ?_
  rw [w64 (by omega) (by omega)]
  have L := long (P := t) (mode := mode) (mp := (sa != sb) && decide (0 < (t.length : Int))) (mb := sc) tC vC C.1 C.2 hm hm' tt.1 (by omega) t.length k [] [] (Nat.le_refl _) (by simp) tr_nil (by simp only [val]; omega) dg_nil (by rw [List.drop_length]; simp [val, hv]) (by omega)
  rw [L, v]
  congr 1
  unfold fin rq
  by_cases z : p = 0
  · have tn : t = [] := nil_of_val tt (by rw [v, z])
    rw [z, tn, Int.zero_ediv, Int.zero_emod]
    have nm : ¬ More mode 0 0 (ab c) := by unfold More; omega
    rw [decide_eq_false nm, if_neg nm]
    simp
  · have tn : (0 : Int) < (t.length : Int) := by
      by_cases y : t = []
      · rw [y] at v; simp only [val] at v; omega
      · have := List.length_pos_iff.2 y; omega
    rw [decide_eq_true tn, Bool.and_true]
    simp only [decide_eq_true_eq]
end Go.Proofs.Ytocaneaofdbpoaa.Wd
