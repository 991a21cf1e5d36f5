/- Plain laws of the reference's numbers of decimal digits: each function of the reference is what its name says, over the value of a list of digits. -/
import Derived.Test.YtocaneaofdbpoaaPAx15
import Derived.Test.YtocaneaofdbpoaaWm
set_option linter.unusedVariables false
namespace Go.Proofs.Ytocaneaofdbpoaa.Wd
open Go.RowKit Go.Proofs.Ytocaneaofdbpoaa.PA Go.Proofs.YtocaneaofdbpoaaW.PrintWords Go.Proofs.YtocaneaofdbpoaaW.PrintMore

/-- The value of a list of digits, the lowest first. -/
def val : List Int → Int
  | [] => 0
  | d :: l => d + 10 * val l
def Dg (l : List Int) : Prop := ∀ x ∈ l, 0 ≤ x ∧ x ≤ 9
def Tr (l : List Int) : Prop := Dg l ∧ ∀ h : l ≠ [], l.getLast h ≠ 0
theorem p10 (n : Nat) : 0 < (10 : Int) ^ n := Int.pow_pos (by omega)
theorem p10s (n : Nat) : (10 : Int) ^ (n + 1) = 10 * 10 ^ n := by rw [Int.pow_succ, Int.mul_comm]
theorem p10_le {m n : Nat} (h : m ≤ n) : (10 : Int) ^ m ≤ 10 ^ n := by
  obtain ⟨d, rfl⟩ : ∃ d, n = m + d := ⟨n - m, by omega⟩
  rw [Int.pow_add]
  have := p10 m
  have h1 : (1 : Int) ≤ 10 ^ d := by have := p10 d; omega
  have := Int.mul_le_mul_of_nonneg_left h1 (by omega : (0 : Int) ≤ 10 ^ m)
  omega
theorem val_append (l m : List Int) : val (l ++ m) = val l + 10 ^ l.length * val m := by
  induction l with
  | nil => simp [val]
  | cons d l ih =>
    simp only [List.cons_append, val, ih, List.length_cons, p10s]
    grind
theorem val_one (d : Int) : val [d] = d := by simp [val]
theorem dg_append {l m : List Int} (h : Dg l) (g : Dg m) : Dg (l ++ m) := fun x hx => by
  rcases List.mem_append.1 hx with z | z
  · exact h x z
  · exact g x z
theorem dg_one {d : Int} (h0 : 0 ≤ d) (h1 : d ≤ 9) : Dg [d] := fun x hx => by
  obtain rfl := List.mem_singleton.1 hx
  exact ⟨h0, h1⟩
theorem dg_nil : Dg [] := fun x hx => by cases hx
theorem dg_take {l : List Int} (h : Dg l) (n : Nat) : Dg (l.take n) := fun x hx => h x (List.mem_of_mem_take hx)
theorem dg_drop {l : List Int} (h : Dg l) (n : Nat) : Dg (l.drop n) := fun x hx => h x (List.mem_of_mem_drop hx)
theorem tr_nil : Tr [] := ⟨dg_nil, fun h => absurd rfl h⟩
theorem val_bd {l : List Int} (h : Dg l) : 0 ≤ val l ∧ val l < 10 ^ l.length := by
  induction l with
  | nil => simp [val]
  | cons d l ih =>
    have a := h d (by simp)
    have b := ih (fun x hx => h x (by simp [hx]))
    simp only [val, List.length_cons, p10s]
    omega
theorem val_lo {l : List Int} (h : Tr l) (hn : l ≠ []) : 10 ^ (l.length - 1) ≤ val l := by
  have e := List.dropLast_concat_getLast hn
  have x := h.1 (l.getLast hn) (List.getLast_mem hn)
  have y := h.2 hn
  have b := val_bd (l := l.dropLast) (fun z hz => h.1 z ((List.dropLast_sublist l).subset hz))
  have v := val_append l.dropLast [l.getLast hn]
  rw [e, val_one, List.length_dropLast] at v
  have t := p10 (l.length - 1)
  have := Int.mul_le_mul_of_nonneg_left (show 1 ≤ l.getLast hn by omega) (show (0 : Int) ≤ 10 ^ (l.length - 1) by omega)
  omega
theorem val_pos {l : List Int} (h : Tr l) (hn : l ≠ []) : 0 < val l := by have := val_lo h hn; have := p10 (l.length - 1); omega
theorem nil_of_val {l : List Int} (h : Tr l) (hv : val l = 0) : l = [] := by
  by_cases z : l = []
  · exact z
  · have := val_pos h z; omega
theorem len_le_of_val {a b : List Int} (ha : Dg a) (hb : Tr b) (h : val b ≤ val a) : b.length ≤ a.length := by
  by_cases z : b = []
  · subst z; simp
  · have x := val_bd ha
    have y := val_lo hb z
    by_cases q : b.length ≤ a.length
    · exact q
    · have := p10_le (show a.length ≤ b.length - 1 by omega)
      omega
theorem len_lt_of_val {a : List Int} (ha : Tr a) {n : Nat} (h : val a < 10 ^ n) : a.length ≤ n := by
  by_cases z : a = []
  · subst z; simp
  · have y := val_lo ha z
    by_cases q : a.length ≤ n
    · exact q
    · have := p10_le (show n ≤ a.length - 1 by omega)
      omega
theorem getD_at {l : List Int} {n : Nat} (h : n < l.length) : l.getD n 0 = l[n] := by simp [List.getD_eq_getElem?_getD, List.getElem?_eq_getElem h]
theorem dg_at {l : List Int} (h : Dg l) (n : Nat) : 0 ≤ l.getD n 0 ∧ l.getD n 0 ≤ 9 := by
  by_cases q : n < l.length
  · rw [getD_at q]
    exact h _ (List.getElem_mem q)
  · rw [List.getD_eq_getElem?_getD, List.getElem?_eq_none (by omega)]
    simp
theorem take_at {l : List Int} {n : Nat} (h : n < l.length) : l.take (n + 1) = l.take n ++ [l.getD n 0] := by
  rw [List.take_succ_eq_append_getElem h, getD_at h]
theorem val_take (l : List Int) (n : Nat) : val (l.take (n + 1)) = val (l.take n) + 10 ^ n * l.getD n 0 := by
  by_cases h : n < l.length
  · rw [take_at h, val_append, val_one, List.length_take, Nat.min_eq_left (by omega)]
  · rw [List.take_of_length_le (by omega), List.take_of_length_le (by omega), List.getD_eq_getElem?_getD, List.getElem?_eq_none (by omega)]
    simp
theorem val_split (l : List Int) (n : Nat) : val l = val (l.take n) + 10 ^ n * val (l.drop n) := by
  by_cases h : n ≤ l.length
  · have := val_append (l.take n) (l.drop n)
    rwa [List.take_append_drop, List.length_take, Nat.min_eq_left h] at this
  · rw [List.take_of_length_le (by omega), List.drop_of_length_le (by omega)]
    simp [val]
theorem drop_at {l : List Int} {n : Nat} (h : n < l.length) : l.drop n = l.getD n 0 :: l.drop (n + 1) := by
  rw [List.drop_eq_getElem_cons h, getD_at h]
theorem val_set (l : List Int) (v : Int) : ∀ n : Nat, n < l.length → val (l.set n v) = val l + (v - l.getD n 0) * 10 ^ n := by
  induction l with
  | nil => intro n h; simp at h
  | cons d l ih =>
    intro n h
    cases n with
    | zero => simp [val]; omega
    | succ n =>
      have := ih n (by simpa using h)
      simp only [List.set_cons_succ, val, this, List.getD_cons_succ, p10s]
      grind
theorem rd_nat (l : List Int) (n : Nat) : rd l (n : Int) = l.getD n 0 := by unfold rd; rw [Int.toNat_natCast]
theorem at_set (l : List Int) (v : Int) {n m : Nat} (h : n < l.length) : (l.set n v).getD m 0 = if m = n then v else l.getD m 0 := by
  simp only [List.getD_eq_getElem?_getD, List.getElem?_set]
  by_cases z : n = m
  · subst z; simp [h]
  · rw [if_neg z, if_neg (fun e => z e.symm)]

theorem trim_eq (n : Nat) : ∀ (k : Nat) (l : List Int), l.length = n → Dg l → n < k → n ≤ 1000000 → ∃ t, paymasterref02_trim.l0 k l = some t ∧ Tr t ∧ val t = val l ∧ t.length ≤ l.length := by
  induction n with
  | zero =>
    intro k l hl hd hk hn
    obtain ⟨k, rfl⟩ : ∃ j, k = j + 1 := ⟨k - 1, by omega⟩
    obtain rfl := List.eq_nil_of_length_eq_zero hl
    exact ⟨[], by simp [paymasterref02_trim.l0], tr_nil, rfl, Nat.le_refl _⟩
  | succ n ih =>
    intro k l hl hd hk hn
    obtain ⟨k, rfl⟩ : ∃ j, k = j + 1 := ⟨k - 1, by omega⟩
    have hne : l ≠ [] := by intro e; rw [e] at hl; simp at hl
    have tk := take_at (l := l) (n := n) (by omega)
    rw [List.take_of_length_le (by omega)] at tk
    simp only [paymasterref02_trim.l0]
    rw [hl, w64 (x := ((n + 1 : Nat) : Int) - 1) (by omega) (by omega), show ((n + 1 : Nat) : Int) - 1 = (n : Int) by omega, rd_nat, if_pos (by omega), if_pos (by omega), if_pos (by omega), Int.toNat_natCast]
    by_cases z : l.getD n 0 = 0
    · rw [if_pos z, if_pos (by omega)]
      obtain ⟨t, e, tr, v, len⟩ := ih k (l.take n) (by rw [List.length_take]; omega) (dg_take hd n) (by omega) (by omega)
      refine ⟨t, e, tr, ?_, by rw [List.length_take] at len; omega⟩
      rw [v]
      conv => rhs; rw [tk, val_append, val_one, z]
      omega
    · rw [if_neg z]
      refine ⟨l, rfl, ⟨hd, fun h => ?_⟩, rfl, by omega⟩
      have : l.getLast h = l.getD n 0 := by
        rw [List.getLast_eq_getElem, getD_at (by omega)]
        congr 1
        omega
      rw [this]
      exact z

theorem size_loop {a b : List Int} (ha : Dg a) (hb : Dg b) (hl : a.length = b.length) (hn : a.length ≤ 1000000) (n : Nat) : ∀ k : Nat, n < k → n ≤ a.length → a.drop n = b.drop n →
    paymasterref02_size.l0 k a b ((n : Int) - 1) = some (sg (val a) (val b)) := by
  induction n with
  | zero =>
    intro k hk _ hd
    obtain ⟨k, rfl⟩ : ∃ j, k = j + 1 := ⟨k - 1, by omega⟩
    simp only [List.drop_zero] at hd
    subst hd
    simp only [paymasterref02_size.l0]
    rw [if_neg (by omega), sg_self]
  | succ n ih =>
    intro k hk hle hd
    obtain ⟨k, rfl⟩ : ∃ j, k = j + 1 := ⟨k - 1, by omega⟩
    simp only [paymasterref02_size.l0]
    rw [show ((n + 1 : Nat) : Int) - 1 = (n : Int) by omega, if_pos (by omega), if_pos (by omega), if_pos (by omega), if_pos (by omega), rd_nat, rd_nat, w64 (x := (n : Int) - 1) (by omega) (by omega)]
    have sa := val_split a n
    have sb := val_split b n
    rw [drop_at (by omega)] at sa sb
    rw [← hd] at sb
    simp only [val] at sa sb
    have ta := val_bd (dg_take ha n)
    have tb := val_bd (dg_take hb n)
    rw [List.length_take, Nat.min_eq_left (by omega)] at ta tb
    have t := p10 n
    generalize val (a.drop (n + 1)) = D at sa sb
    by_cases h : a.getD n 0 < b.getD n 0
    · rw [if_pos h]
      have := Int.mul_le_mul_of_nonneg_left (show a.getD n 0 + 1 ≤ b.getD n 0 by omega) (show (0 : Int) ≤ 10 ^ n by omega)
      rw [Int.mul_add] at sa sb this
      unfold sg
      rw [if_pos (by omega)]
    · rw [if_neg h]
      by_cases g : a.getD n 0 > b.getD n 0
      · rw [if_pos g]
        have := Int.mul_le_mul_of_nonneg_left (show b.getD n 0 + 1 ≤ a.getD n 0 by omega) (show (0 : Int) ≤ 10 ^ n by omega)
        rw [Int.mul_add] at sa sb this
        unfold sg
        rw [if_neg (by omega), if_neg (by omega)]
      · rw [if_neg g]
        exact ih k (by omega) (by omega) (by rw [drop_at (l := a) (n := n) (by omega), drop_at (l := b) (n := n) (by omega), hd, show a.getD n 0 = b.getD n 0 by omega])
theorem size_eq' {k : Nat} {a b : List Int} (ha : Tr a) (hb : Tr b) (hn : a.length ≤ 1000) (hm : b.length ≤ 1000) (hk : 1002 ≤ k) : paymasterref02_size.f k a b = some (sg (val a) (val b)) := by
  unfold paymasterref02_size.f
  by_cases h : (a.length : Int) = (b.length : Int)
  · rw [if_pos h, w64 (by omega) (by omega)]
    exact size_loop ha.1 hb.1 (by omega) (by omega) a.length k (by omega) (Nat.le_refl _) (by rw [List.drop_length, List.drop_of_length_le (by omega)])
  · rw [if_neg h]
    by_cases g : (a.length : Int) < (b.length : Int)
    · rw [if_pos g]
      have : val a < val b := by
        by_cases z : val b ≤ val a
        · have := len_le_of_val ha.1 hb z; omega
        · omega
      unfold sg
      rw [if_pos this]
    · rw [if_neg g]
      have : val b < val a := by
        by_cases z : val a ≤ val b
        · have := len_le_of_val hb.1 ha z; omega
        · omega
      unfold sg
      rw [if_neg (by omega), if_neg (by omega)]

theorem less_loop {a b : List Int} (ha : Dg a) (hb : Dg b) (hl : b.length ≤ a.length) (hn : a.length ≤ 1000) (hv : val b ≤ val a) (e : Nat) : ∀ (k : Nat) (out : List Int) (br : Int) (n : Nat), Dg out → out.length = n → 0 ≤ br → br ≤ 1 → n + e = a.length → e + 1002 ≤ k →
    val out = val (a.take n) - val (b.take n) + br * 10 ^ n → ∃ t, paymasterref02_less.l0 k a b out br (n : Int) = some t ∧ Tr t ∧ val t = val a - val b := by
  induction e with
  | zero =>
    intro k out br n hd hlen b0 b1 hne hk hval
    obtain ⟨k, rfl⟩ : ∃ j, k = j + 1 := ⟨k - 1, by omega⟩
    simp only [paymasterref02_less.l0]
    rw [if_neg (by omega)]
    rw [List.take_of_length_le (by omega), List.take_of_length_le (by omega)] at hval
    have vb := val_bd hd
    rw [hlen] at vb
    have t := p10 n
    have br0 : br = 0 := by
      by_cases z : br = 0
      · exact z
      · rw [show br = 1 by omega, Int.one_mul] at hval; omega
    obtain ⟨s, e1, tr, v, _⟩ := trim_eq n k out hlen hd (by omega) (by omega)
    refine ⟨s, ?_, tr, by rw [v, hval, br0]; omega⟩
    unfold paymasterref02_trim.f
    rw [e1]
    rfl
  | succ e ih =>
    intro k out br n hd hlen b0 b1 hne hk hval
    obtain ⟨k, rfl⟩ : ∃ j, k = j + 1 := ⟨k - 1, by omega⟩
    have da := dg_at ha n
    have db := dg_at hb n
    have ta := val_take a n
    have tb := val_take b n
    have t := p10 n
    have step : ∀ (x br' : Int), 0 ≤ x → x ≤ 9 → 0 ≤ br' → br' ≤ 1 → x = a.getD n 0 - br - b.getD n 0 + 10 * br' → ∃ t, paymasterref02_less.l0 k a b (out ++ [x]) br' ((n : Int) + 1) = some t ∧ Tr t ∧ val t = val a - val b := by
      intro x br' x0 x1 y0 y1 hx
      have := ih k (out ++ [x]) br' (n + 1) (dg_append hd (dg_one x0 x1)) (by simp [hlen]) y0 y1 (by omega) (by omega) (by
        rw [val_append, val_one, hlen, hval, ta, tb, hx, p10s]
        grind)
      rwa [show (((n + 1 : Nat)) : Int) = (n : Int) + 1 by omega] at this
    simp only [paymasterref02_less.l0]
    rw [if_pos (by omega), if_pos (by omega), rd_nat, rd_nat, w64 (x := a.getD n 0 - br) (by omega) (by omega), w64 (x := (n : Int) + 1) (by omega) (by omega)]
    rw [w64 (x := a.getD n 0 - br - b.getD n 0) (by omega) (by omega), w64 (x := a.getD n 0 - br - b.getD n 0 + 10) (by omega) (by omega), w64 (x := a.getD n 0 - br + 10) (by omega) (by omega)]
    rw [if_pos (show out.length < 17592186044416 by omega)]
    simp only [if_pos (show out.length < 17592186044416 by omega)]
    by_cases hb' : (n : Int) < (b.length : Int)
    · rw [if_pos hb']
      by_cases h : a.getD n 0 - br - b.getD n 0 < 0
      · rw [if_pos h]
        exact step _ 1 (by omega) (by omega) (by omega) (by omega) (by omega)
      · rw [if_neg h]
        exact step _ 0 (by omega) (by omega) (by omega) (by omega) (by omega)
    · rw [if_neg hb']
      have z : b.getD n 0 = 0 := by rw [List.getD_eq_getElem?_getD, List.getElem?_eq_none (by omega)]; rfl
      by_cases h : a.getD n 0 - br < 0
      · rw [if_pos h]
        exact step _ 1 (by omega) (by omega) (by omega) (by omega) (by omega)
      · rw [if_neg h]
        exact step _ 0 (by omega) (by omega) (by omega) (by omega) (by omega)
theorem less_eq {k : Nat} {a b : List Int} (ha : Dg a) (hb : Tr b) (hn : a.length ≤ 1000) (hv : val b ≤ val a) (hk : 2010 ≤ k) : ∃ t, paymasterref02_less.f k a b = some t ∧ Tr t ∧ val t = val a - val b := by
  unfold paymasterref02_less.f
  exact less_loop ha hb.1 (len_le_of_val ha hb hv) hn hv a.length k [] 0 0 dg_nil rfl (by omega) (by omega) (by omega) (by omega) (by simp [val])

/-- The digits of a number from 0 on. -/
def dgs : Nat → Int → List Int
  | 0, _ => []
  | f + 1, n => if n = 0 then [] else (n % 10) :: dgs f (n / 10)
theorem dgs_zero (f : Nat) : dgs f 0 = [] := by cases f <;> simp [dgs]
theorem dgs_eq (f : Nat) : ∀ n : Int, 0 ≤ n → n < 10 ^ f → Tr (dgs f n) ∧ val (dgs f n) = n ∧ (dgs f n).length ≤ f ∧ (n ≠ 0 → dgs f n ≠ []) := by
  induction f with
  | zero => intro n h0 h1; simp at h1; obtain rfl : n = 0 := by omega
            exact ⟨tr_nil, rfl, Nat.le_refl _, fun h => absurd rfl h⟩
  | succ f ih =>
    intro n h0 h1
    rw [p10s] at h1
    simp only [dgs]
    by_cases z : n = 0
    · rw [if_pos z]
      exact ⟨tr_nil, by rw [z]; rfl, by simp, fun h => absurd z h⟩
    · rw [if_neg z]
      obtain ⟨t, v, l, g⟩ := ih (n / 10) (by omega) (by omega)
      refine ⟨⟨fun x hx => ?_, fun h => ?_⟩, ?_, ?_, by simp⟩
      · rcases List.mem_cons.1 hx with rfl | y
        · omega
        · exact t.1 x y
      · by_cases y : n / 10 = 0
        · simp only [y, dgs_zero, List.getLast_singleton]
          omega
        · rw [List.getLast_cons (g y)]
          exact t.2 _
      · simp only [val, v]; omega
      · simp only [List.length_cons]; omega
theorem of_loop (s : Bool) (f : Nat) : ∀ (k : Nat) (n : Int) (acc : List Int), -9223372036854775808 ≤ n → n ≤ 9223372036854775807 → ab n < 10 ^ f → acc.length + f ≤ 1000 → f < k →
    paymasterref02_Of.l0 k n s acc = some (s, acc ++ dgs f (ab n)) := by
  induction f with
  | zero =>
    intro k n acc h0 h1 h ha hk
    obtain ⟨k, rfl⟩ : ∃ j, k = j + 1 := ⟨k - 1, by omega⟩
    have : n = 0 := by unfold ab at h; simp at h; split at h <;> omega
    subst this
    simp only [paymasterref02_Of.l0]
    rw [if_pos trivial, show ab 0 = 0 from rfl, dgs_zero, List.append_nil]
  | succ f ih =>
    intro k n acc h0 h1 h ha hk
    obtain ⟨k, rfl⟩ : ∃ j, k = j + 1 := ⟨k - 1, by omega⟩
    simp only [paymasterref02_Of.l0]
    by_cases z : n = 0
    · subst z
      rw [if_pos rfl, show ab 0 = 0 from rfl, dgs_zero, List.append_nil]
    · rw [if_neg z, if_pos (show acc.length < 17592186044416 by omega)]
      simp only [if_pos (show acc.length < 17592186044416 by omega)]
      rw [p10s] at h
      have tdv : -9223372036854775808 ≤ Int.tdiv n 10 ∧ Int.tdiv n 10 ≤ 9223372036854775807 ∧ ab (Int.tdiv n 10) = ab n / 10 ∧ ab (Int.tmod n 10) = ab n % 10 ∧ (Int.tmod n 10 < 0 → -Int.tmod n 10 = ab n % 10) ∧ (¬ Int.tmod n 10 < 0 → Int.tmod n 10 = ab n % 10) ∧ -9 ≤ Int.tmod n 10 ∧ Int.tmod n 10 ≤ 9 := by
        by_cases s : n < 0
        · obtain ⟨m, rfl⟩ : ∃ m, n = -m := ⟨-n, by omega⟩
          rw [Int.neg_tdiv, Int.neg_tmod, Int.tdiv_eq_ediv_of_nonneg (by omega), Int.tmod_eq_emod_of_nonneg (by omega)]
          unfold ab
          refine ⟨by omega, by omega, ?_, ?_, ?_, ?_, by omega, by omega⟩ <;> (repeat' split) <;> omega
        · rw [Int.tdiv_eq_ediv_of_nonneg (by omega), Int.tmod_eq_emod_of_nonneg (by omega)]
          unfold ab
          refine ⟨by omega, by omega, ?_, ?_, ?_, ?_, by omega, by omega⟩ <;> (repeat' split) <;> omega
      obtain ⟨t0, t1, t2, t3, t4, t5, t6, t7⟩ := tdv
      have nz : ab n ≠ 0 := by have := ab_pos z; omega
      rw [w64 (x := Int.tdiv n 10) t0 t1, w64 (x := -Int.tmod n 10) (by omega) (by omega)]
      have fin : ∀ d : Int, d = ab n % 10 → paymasterref02_Of.l0 k (Int.tdiv n 10) s (acc ++ [d]) = some (s, acc ++ dgs (f + 1) (ab n)) := by
        intro d hd
        rw [ih k (Int.tdiv n 10) (acc ++ [d]) t0 t1 (by rw [t2]; omega) (by simp; omega) (by omega), t2, hd]
        simp only [dgs, if_neg nz, List.append_assoc, List.cons_append, List.nil_append]
      by_cases g : Int.tmod n 10 < 0
      · rw [if_pos g]
        exact fin _ (t4 g)
      · rw [if_neg g]
        exact fin _ (t5 g)
theorem of_eq {k : Nat} (hk : 30 ≤ k) {n : Int} (h0 : -9223372036854775808 ≤ n) (h1 : n ≤ 9223372036854775807) :
    ∃ L, paymasterref02_Of.f k n = some (decide (n < 0), L) ∧ Tr L ∧ val L = ab n ∧ L.length ≤ 20 := by
  have hb : ab n < 10 ^ 20 := by unfold ab; split <;> omega
  obtain ⟨t, v, l, _⟩ := dgs_eq 20 (ab n) (ab_nn n) hb
  refine ⟨dgs 20 (ab n), ?_, t, v, l⟩
  unfold paymasterref02_Of.f
  rw [of_loop _ 20 k n [] h0 h1 hb (by simp) (by omega)]
  rfl
end Go.Proofs.Ytocaneaofdbpoaa.Wd
