/- Contracts of the functions of the given program: written by wip/pmprint.py, a program of this session, which runs the print of the kit over altered functions. -/
import Derived.Test.YtocaneaofdbpoaaPAx0
import Derived.Test.YtocaneaofdbpoaaPAx12
import Derived.Test.YtocaneaofdbpoaaPAx13
namespace Go.Proofs.Ytocaneaofdbpoaa.PA
open Go.RowKit Go.Proofs.YtocaneaofdbpoaaW.PrintWords Go.Proofs.YtocaneaofdbpoaaW.PrintLast Go.Proofs.YtocaneaofdbpoaaW.PrintMore
attribute [local go_sem] max2_int min2_int max_two min_two max_three min_three max_four min_four   -- for this text's walks alone
set_option linter.unusedVariables false
set_option linter.unusedSimpArgs false

/-! ### paymasterref02_Of: function 46 -/
def paymasterref02_Of.l0 : Nat → Int → Bool → List Int → Option (Bool × List Int)
  | 0, _, _, _ => none
  | k + 1, x0, x363000, x363001 => if x0 = 0 then (some (x363000, x363001)) else (if (Int.tmod x0 10) < 0 then (if x363001.length < 17592186044416 then (paymasterref02_Of.l0 k (wrap64 (Int.tdiv x0 10)) x363000 (x363001 ++ [wrap64 (-(Int.tmod x0 10))])) else (none)) else (if x363001.length < 17592186044416 then (paymasterref02_Of.l0 k (wrap64 (Int.tdiv x0 10)) x363000 (x363001 ++ [Int.tmod x0 10])) else (none)))
def paymasterref02_Of.f (k : Nat) (a0 : Int) : Option (Bool × List Int) := paymasterref02_Of.l0 k a0 (decide (a0 < 0)) ([] : List Int)
set_option maxHeartbeats 8000000 in
set_option maxRecDepth 100000 in
theorem paymasterref02_Of.calls (k : Nat) (a0 : Int) (r1 : Bool) (r2 : List Int) (w : World) (h : paymasterref02_Of.f k a0 = some (r1, r2)) :
    Calls Try.prog 46 #[.int .i64 a0] w fun e w' => ∃ v1_ : Value, e = .returned (.agg #[.bool r1, v1_]) ∧ Kd.R (Kd.int .i64) 3 w' w.heap.size (fun _ => True) v1_ r2 ∧ Below w.heap.size w w' := by
 have hu87 := Try.underlying87
 have HB := Aside0.mk (Below.refl w.heap.size w)
 have H : (paymasterref02_Of.l0 k a0 (decide (a0 < 0)) ([] : List Int)) = some (r1, r2) := h
 clear h
 have H' := Aside0.mk H
 clear H
 go_enter Try.func46, Try.ntmps46
 go_wp2_with (first | ((with_reducible refine gate_dst (N := 2) rfl ?_); refine bx_ 2 #[.bool false, .slice none 0 0] 87 ?_; intro gb361 hg w2 hbox hb; have BK361 := Aside0.mk hbox; have GW361 := gs_ hg; have GE361 := gs_ hg; replace HB := hs_ hb; clear hb hbox hg) | ((with_reducible refine gate_dst (N := 3) rfl ?_); refine bx_ 3 #[.bool false, .slice none 0 0] 87 ?_; intro gb362 hg w3 hbox hb; have BK362 := Aside0.mk hbox; have GW362 := gs_ hg; have GE362 := gs_ hg; have NB361_362 := nl_ hg BK361.out; have NB362_361 := ng_ hg BK361.out; replace BK361 := bb_ BK361.out hb; replace HB := hs_ hb; clear hb hbox hg; have hnb4 := NB362_361.out; have hnc4 := NB361_362.out; obtain ⟨hcz5_0, hcz5_1, hfz5_0, hfz5_1⟩ := c2_ BK362.out))
 go_loopg [0] k (fun kq v0 w' => ∃ (x0_1 : Int) (x363001_1 : List Int) (u363001 : Value), v0 = .int .i64 x0_1 ∧ Aside0 (paymasterref02_Of.l0 kq x0_1 (decide (a0 < 0)) x363001_1 = some (r1, r2)) ∧ Aside0 (kq ≤ k) ∧ Aside0 (Kd.R (Kd.int .i64) 3 w' w.heap.size (fun _ => True) u363001 x363001_1) ∧ Aside0 (w'.heap[gb361]? = some (.cells #[.bool false, (.slice none 0 0)] 87 (0, 0))) ∧ Aside0 (w'.heap[gb362]? = some (.cells #[.bool (decide (a0 < 0)), u363001] 87 (0, 0))) ∧ Aside0 (Below w.heap.size w w'))
 case atStart => exact ⟨(a0), (([] : List Int)), (.slice none 0 0), sm_, H', ⟨Nat.le_refl _⟩, ⟨kn_⟩, ⟨bf_ BK361.out⟩, ⟨bp_ BK362.out⟩, ⟨bl_⟩⟩
 case round =>
  clear H'
  try clear hcz5_0; try clear hcz5_1; try clear hfz5_0; try clear hfz5_1
  obtain ⟨x0_1, x363001_1, u363001, rfl, HA, HK1, HO_363001, BK361, BK362, HB⟩ := hrel
  cases gk with
  | zero => exact absurd HA.out (by simp [paymasterref02_Of.l0])
  | succ k1 =>
   have H := HA.out
   clear HA
   simp only [paymasterref02_Of.l0] at H
   by_cases c6 : x0_1 = 0
   ·rw [if_pos c6] at H
    have c6b0 : (x0_1 == 0) = true := beq_iff_eq.mpr c6
    have c6b1 : (x0_1 != 0) = false := bne_eq_false_iff_eq.mpr c6
    clear c6
    simp only [Option.some.injEq, Prod.mk.injEq] at H
    obtain ⟨rfl, rfl⟩ := H
    have hnb7 := NB362_361.out
    have hnc7 := NB361_362.out
    obtain ⟨hcz8_0, hcz8_1, hfz8_0, hfz8_1⟩ := c2_ BK362.out
    obtain ⟨hcz9_0, hcz9_1, hfz9_0, hfz9_1⟩ := c2_ BK361.out
    obtain ⟨Ao10, co10, eo10⟩ := Kd.R_slice HO_363001.out
    subst eo10
    go_wp2
    refine bodyPost_ret (results_cell_row rfl _ _ gb361 87 #[.bool (decide (a0 < 0)), .slice Ao10 x363001_1.length co10] (0, 0) _ rfl (bp_ BK361.out) Try.underlying87 rfl (by kernel_rfl)) rfl ?_
    exact ⟨_, se_, by refine kr_ ?_; exact Kd.R_mono (rf2_ (Kd.R_types HO_363001.out BK361.out (by decide))) (fun _ hk => trivial), bl_⟩
   ·rw [if_neg c6] at H
    have c6b0 : (x0_1 == 0) = false := beq_eq_false_iff_ne.mpr c6
    have c6b1 : (x0_1 != 0) = true := bne_iff_ne.mpr c6
    by_cases c11 : (Int.tmod x0_1 10) < 0
    ·rw [if_pos c11] at H
     have c11b0 : decide ((Int.tmod x0_1 10) < 0) = true := decide_eq_true c11
     clear c11
     by_cases c12 : x363001_1.length < 17592186044416
     ·rw [if_pos c12] at H
      have LMc12 := Aside0.mk c12
      clear c12
      obtain ⟨y363, hy363⟩ : ∃ y_ : List Int, y_ = (x363001_1 ++ [wrap64 (-(Int.tmod x0_1 10))]) := ⟨_, rfl⟩
      replace H : (paymasterref02_Of.l0 k1 (wrap64 (Int.tdiv x0_1 10)) (decide (a0 < 0)) y363) = some (r1, r2) := by first | (rw [hy363]; with_reducible exact H) | (have H2_ := (Option.bind_some _ _).symm.trans H; rw [hy363]; with_reducible exact H2_) | (have H2_ := (Option.bind_some _ _).symm.trans H; with_reducible exact H2_) | with_reducible exact H | (rw [hy363]; exact H) | exact H
      have Ny363 := Aside0.mk hy363
      clear hy363
      have H' := Aside0.mk H
      clear H
      have hnb13 := NB362_361.out
      have hnc13 := NB361_362.out
      obtain ⟨hcz14_0, hcz14_1, hfz14_0, hfz14_1⟩ := c2_ BK362.out
      go_wp2_with (first | ((with_reducible refine gate_builtin (b := .append) (xs := #[.tmp 17, .tmp 19]) rfl ?_); at_builtin; refine Kd.R_append (Kd.int .i64) (w0 := w) w.heap.size rfl (.tmp 17) (.tmp 19) 28 3 (.int .i64 0) 8 rfl Try.underlying28 info3 rfl (by decide) (by omega) u363001 x363001_1 (wrap64 (-(Int.tmod x0_1 10))) [.int .i64 (wrap64 (-(Int.tmod x0_1 10)))] (fun _ => True) (fun _ => False) rfl rfl ?aP (fun _ hk => hk.elim) ?aF ?aO ?aB ?aS ?aL ?_; (case aP => exact rfl); (case aB => exact bl_); (case aF => exact (fun _ _ => trivial)); (case aO => exact (rs_ HO_363001.out)); (case aS => exact (below_size bl_)); (case aL => have := LMc12.out; omega); intro v364 w15 ho hb hg hat; rw [← Ny363.out] at ho; have HO365 := Aside0.mk (ho); replace BK361 := bg_ BK361.out hg (Kd.R_ne HO_363001.out BK361.out (by decide)); replace BK362 := bg_ BK362.out hg (Kd.R_ne HO_363001.out BK362.out (by decide)); replace HB := Aside0.mk (hb); clear HO_363001; clear ho hb hg hat; obtain ⟨Ao16, co16, eo16⟩ := Kd.R_slice HO365.out; subst eo16; obtain ⟨hcz17_0, hcz17_1, hfz17_0, hfz17_1⟩ := c2_ BK362.out))
      go_roundg k1
      case measure => have := HK1.out; omega
      case rel => exact ⟨(wrap64 (Int.tdiv x0_1 10)), (y363), (.slice Ao16 y363.length co16), sm_, H', ⟨by have := HK1.out; omega⟩, ⟨rs_ (ty_ HO365.out BK362.out)⟩, ⟨bf_ BK361.out⟩, ⟨bp_ BK362.out⟩, ⟨bl_⟩⟩
     ·rw [if_neg c12] at H
      exact absurd H (by simp)
    ·rw [if_neg c11] at H
     have c11b0 : decide ((Int.tmod x0_1 10) < 0) = false := decide_eq_false c11
     clear c11
     by_cases c18 : x363001_1.length < 17592186044416
     ·rw [if_pos c18] at H
      have LMc18 := Aside0.mk c18
      clear c18
      obtain ⟨y366, hy366⟩ : ∃ y_ : List Int, y_ = (x363001_1 ++ [Int.tmod x0_1 10]) := ⟨_, rfl⟩
      replace H : (paymasterref02_Of.l0 k1 (wrap64 (Int.tdiv x0_1 10)) (decide (a0 < 0)) y366) = some (r1, r2) := by first | (rw [hy366]; with_reducible exact H) | (have H2_ := (Option.bind_some _ _).symm.trans H; rw [hy366]; with_reducible exact H2_) | (have H2_ := (Option.bind_some _ _).symm.trans H; with_reducible exact H2_) | with_reducible exact H | (rw [hy366]; exact H) | exact H
      have Ny366 := Aside0.mk hy366
      clear hy366
      have H' := Aside0.mk H
      clear H
      have hnb19 := NB362_361.out
      have hnc19 := NB361_362.out
      obtain ⟨hcz20_0, hcz20_1, hfz20_0, hfz20_1⟩ := c2_ BK362.out
      go_wp2_with (first | ((with_reducible refine gate_builtin (b := .append) (xs := #[.tmp 17, .tmp 19]) rfl ?_); at_builtin; refine Kd.R_append (Kd.int .i64) (w0 := w) w.heap.size rfl (.tmp 17) (.tmp 19) 28 3 (.int .i64 0) 8 rfl Try.underlying28 info3 rfl (by decide) (by omega) u363001 x363001_1 (Int.tmod x0_1 10) [.int .i64 (Int.tmod x0_1 10)] (fun _ => True) (fun _ => False) rfl rfl ?aP (fun _ hk => hk.elim) ?aF ?aO ?aB ?aS ?aL ?_; (case aP => exact rfl); (case aB => exact bl_); (case aF => exact (fun _ _ => trivial)); (case aO => exact (rs_ HO_363001.out)); (case aS => exact (below_size bl_)); (case aL => have := LMc18.out; omega); intro v367 w21 ho hb hg hat; rw [← Ny366.out] at ho; have HO368 := Aside0.mk (ho); replace BK361 := bg_ BK361.out hg (Kd.R_ne HO_363001.out BK361.out (by decide)); replace BK362 := bg_ BK362.out hg (Kd.R_ne HO_363001.out BK362.out (by decide)); replace HB := Aside0.mk (hb); clear HO_363001; clear ho hb hg hat; obtain ⟨Ao22, co22, eo22⟩ := Kd.R_slice HO368.out; subst eo22; obtain ⟨hcz23_0, hcz23_1, hfz23_0, hfz23_1⟩ := c2_ BK362.out))
      go_roundg k1
      case measure => have := HK1.out; omega
      case rel => exact ⟨(wrap64 (Int.tdiv x0_1 10)), (y366), (.slice Ao22 y366.length co22), sm_, H', ⟨by have := HK1.out; omega⟩, ⟨rs_ (ty_ HO368.out BK362.out)⟩, ⟨bf_ BK361.out⟩, ⟨bp_ BK362.out⟩, ⟨bl_⟩⟩
     ·rw [if_neg c18] at H
      exact absurd H (by simp)

/-! ### paymasterref02_size: function 48 -/
def paymasterref02_size.l0 : Nat → List Int → List Int → Int → Option (Int)
  | 0, _, _, _ => none
  | k + 1, x0, x1, x5 => if x5 ≥ 0 then (if 0 ≤ x5 then (if x5 < (x0.length : Int) then (if x5 < (x1.length : Int) then (if (rd x0 x5) < (rd x1 x5) then (some (-1)) else (if (rd x0 x5) > (rd x1 x5) then (some 1) else (paymasterref02_size.l0 k x0 x1 (wrap64 (x5 - 1))))) else (none)) else (none)) else (none)) else (some 0)
def paymasterref02_size.f (k : Nat) (l0 : List Int) (l1 : List Int) : Option (Int) := if (l0.length : Int) = (l1.length : Int) then (paymasterref02_size.l0 k l0 l1 (wrap64 ((l0.length : Int) - 1))) else (if (l0.length : Int) < (l1.length : Int) then (some (-1)) else (some 1))
set_option maxHeartbeats 8000000 in
set_option maxRecDepth 100000 in
theorem paymasterref02_size.calls (k : Nat) (A0 : Option Addr) (c0 : Nat) (l0 : List Int) (A1 : Option Addr) (c1 : Nat) (l1 : List Int) (r : Int) (w : World) (hr0 : Kd.C (Kd.int .i64) w A0 l0.length l0) (hc0 : l0.length ≤ c0) (hr1 : Kd.C (Kd.int .i64) w A1 l1.length l1) (hc1 : l1.length ≤ c1) (h : paymasterref02_size.f k l0 l1 = some r) :
    Calls Try.prog 48 #[.slice A0 l0.length c0, .slice A1 l1.length c1] w fun e w' => e = .returned (.int .i64 r) ∧ Drawn0 w w' := by
 have HR0 := Aside0.mk hr0
 have HC0 := Aside0.mk hc0
 clear hr0 hc0
 have HR1 := Aside0.mk hr1
 have HC1 := Aside0.mk hc1
 clear hr1 hc1
 have H : (if (l0.length : Int) = (l1.length : Int) then (paymasterref02_size.l0 k l0 l1 (wrap64 ((l0.length : Int) - 1))) else (if (l0.length : Int) < (l1.length : Int) then (some (-1)) else (some 1))) = some r := h
 clear h
 by_cases c3 : (l0.length : Int) = (l1.length : Int)
 ·rw [if_pos c3] at H
  have c3b0 : ((l0.length : Int) == (l1.length : Int)) = true := beq_iff_eq.mpr c3
  have c3b1 : ((l0.length : Int) != (l1.length : Int)) = false := bne_eq_false_iff_eq.mpr c3
  have c3b2 : (l0.length == l1.length) = true := by first | simpa using c3 | (simp at c3 ⊢; omega)
  clear c3
  have H' := Aside0.mk H
  clear H
  go_enter Try.func48, Try.ntmps48
  go_wp2
  repeat (go_quiet (fail); try go_wp2)
  go_loopg [5] k (fun kq v5 w' => ∃ (x5_1 : Int), v5 = .int .i64 x5_1 ∧ Aside0 (paymasterref02_size.l0 kq l0 l1 x5_1 = some r) ∧ Aside0 (kq ≤ k) ∧ Drawn0 w w')
  case atStart => exact ⟨(wrap64 ((l0.length : Int) - 1)), sm_, H', ⟨Nat.le_refl _⟩, dr_⟩
  case round =>
   clear H'
   try clear c1; try clear c3; try clear c3b0; try clear c3b1; try clear c3b2
   obtain ⟨x5_1, rfl, HA, HK1, ⟨m1, rfl⟩⟩ := hrel
   cases gk with
   | zero => exact absurd HA.out (by simp [paymasterref02_size.l0])
   | succ k1 =>
    have H := HA.out
    clear HA
    simp only [paymasterref02_size.l0] at H
    by_cases c4 : x5_1 ≥ 0
    ·rw [if_pos c4] at H
     have c4b0 : decide (0 ≤ x5_1) = true := decide_eq_true c4
     clear c4
     by_cases c5 : 0 ≤ x5_1
     ·rw [if_pos c5] at H
      have c5b0 : decide (0 ≤ x5_1) = true := decide_eq_true c5
      clear c5
      by_cases c6 : x5_1 < (l0.length : Int)
      ·rw [if_pos c6] at H
       have c6b0 : decide (x5_1 < (l0.length : Int)) = true := decide_eq_true c6
       clear c6
       by_cases c7 : x5_1 < (l1.length : Int)
       ·rw [if_pos c7] at H
        have c7b0 : decide (x5_1 < (l1.length : Int)) = true := decide_eq_true c7
        clear c7
        by_cases c8 : (rd l0 x5_1) < (rd l1 x5_1)
        ·rw [if_pos c8] at H
         have c8b0 : decide ((rd l0 x5_1) < (rd l1 x5_1)) = true := decide_eq_true c8
         clear c8
         obtain rfl := Option.some.inj H
         have p369 : 0 ≤ (x5_1 : Int) := od_
         have q369 : x5_1 < (l0.length : Int) := od_
         obtain ⟨ad369, e369, hx369_0⟩ := Kd.at_int HR0.out x5_1 p369 q369
         cases e369
         replace p369 := eq_true p369
         replace q369 := eq_true q369
         have p370 : 0 ≤ (x5_1 : Int) := od_
         have q370 : x5_1 < (l1.length : Int) := od_
         obtain ⟨ad370, e370, hx370_0⟩ := Kd.at_int HR1.out x5_1 p370 q370
         cases e370
         replace p370 := eq_true p370
         replace q370 := eq_true q370
         go_wp2
         repeat (go_quiet (fail); try go_wp2)
         go_ret
         exact ⟨sm_, dr_⟩
        ·rw [if_neg c8] at H
         have c8b0 : decide ((rd l0 x5_1) < (rd l1 x5_1)) = false := decide_eq_false c8
         clear c8
         by_cases c9 : (rd l0 x5_1) > (rd l1 x5_1)
         ·rw [if_pos c9] at H
          have c9b0 : decide ((rd l1 x5_1) < (rd l0 x5_1)) = true := decide_eq_true c9
          clear c9
          obtain rfl := Option.some.inj H
          have p369 : 0 ≤ (x5_1 : Int) := od_
          have q369 : x5_1 < (l0.length : Int) := od_
          obtain ⟨ad369, e369, hx369_0⟩ := Kd.at_int HR0.out x5_1 p369 q369
          cases e369
          replace p369 := eq_true p369
          replace q369 := eq_true q369
          have p370 : 0 ≤ (x5_1 : Int) := od_
          have q370 : x5_1 < (l1.length : Int) := od_
          obtain ⟨ad370, e370, hx370_0⟩ := Kd.at_int HR1.out x5_1 p370 q370
          cases e370
          replace p370 := eq_true p370
          replace q370 := eq_true q370
          have p371 : 0 ≤ (x5_1 : Int) := od_
          have q371 : x5_1 < (l0.length : Int) := od_
          obtain ⟨ad371, e371, hx371_0⟩ := Kd.at_int HR0.out x5_1 p371 q371
          obtain rfl : ad369 = ad371 := (by injection e371)
          replace p371 := eq_true p371
          replace q371 := eq_true q371
          have p372 : 0 ≤ (x5_1 : Int) := od_
          have q372 : x5_1 < (l1.length : Int) := od_
          obtain ⟨ad372, e372, hx372_0⟩ := Kd.at_int HR1.out x5_1 p372 q372
          obtain rfl : ad370 = ad372 := (by injection e372)
          replace p372 := eq_true p372
          replace q372 := eq_true q372
          go_wp2
          repeat (go_quiet (fail); try go_wp2)
          go_ret
          exact ⟨sm_, dr_⟩
         ·rw [if_neg c9] at H
          have c9b0 : decide ((rd l1 x5_1) < (rd l0 x5_1)) = false := decide_eq_false c9
          clear c9
          have H' := Aside0.mk H
          clear H
          have p369 : 0 ≤ (x5_1 : Int) := od_
          have q369 : x5_1 < (l0.length : Int) := od_
          obtain ⟨ad369, e369, hx369_0⟩ := Kd.at_int HR0.out x5_1 p369 q369
          cases e369
          replace p369 := eq_true p369
          replace q369 := eq_true q369
          have p370 : 0 ≤ (x5_1 : Int) := od_
          have q370 : x5_1 < (l1.length : Int) := od_
          obtain ⟨ad370, e370, hx370_0⟩ := Kd.at_int HR1.out x5_1 p370 q370
          cases e370
          replace p370 := eq_true p370
          replace q370 := eq_true q370
          have p371 : 0 ≤ (x5_1 : Int) := od_
          have q371 : x5_1 < (l0.length : Int) := od_
          obtain ⟨ad371, e371, hx371_0⟩ := Kd.at_int HR0.out x5_1 p371 q371
          obtain rfl : ad369 = ad371 := (by injection e371)
          replace p371 := eq_true p371
          replace q371 := eq_true q371
          have p372 : 0 ≤ (x5_1 : Int) := od_
          have q372 : x5_1 < (l1.length : Int) := od_
          obtain ⟨ad372, e372, hx372_0⟩ := Kd.at_int HR1.out x5_1 p372 q372
          obtain rfl : ad370 = ad372 := (by injection e372)
          replace p372 := eq_true p372
          replace q372 := eq_true q372
          go_wp2
          repeat (go_quiet (fail); try go_wp2)
          go_roundg k1
          case measure => have := HK1.out; omega
          case rel => exact ⟨(wrap64 (x5_1 - 1)), sm_, H', ⟨by have := HK1.out; omega⟩, dr_⟩
       ·rw [if_neg c7] at H
        exact absurd H (by simp)
      ·rw [if_neg c6] at H
       exact absurd H (by simp)
     ·rw [if_neg c5] at H
      exact absurd H (by simp)
    ·rw [if_neg c4] at H
     have c4b0 : decide (0 ≤ x5_1) = false := decide_eq_false c4
     clear c4
     obtain rfl := Option.some.inj H
     go_wp2
     repeat (go_quiet (fail); try go_wp2)
     go_ret
     exact ⟨sm_, dr_⟩
 ·rw [if_neg c3] at H
  have c3b0 : ((l0.length : Int) == (l1.length : Int)) = false := beq_eq_false_iff_ne.mpr c3
  have c3b1 : ((l0.length : Int) != (l1.length : Int)) = true := bne_iff_ne.mpr c3
  have c3b2 : (l0.length == l1.length) = false := by first | simpa using c3 | (simp at c3 ⊢; omega)
  by_cases c10 : (l0.length : Int) < (l1.length : Int)
  ·rw [if_pos c10] at H
   have c10b0 : decide ((l0.length : Int) < (l1.length : Int)) = true := decide_eq_true c10
   have c10b1 : decide (l0.length < l1.length) = true := decide_eq_true (Int.ofNat_lt.mp c10)
   clear c10
   obtain rfl := Option.some.inj H
   go_enter Try.func48, Try.ntmps48
   go_wp2
   repeat (go_quiet (fail); try go_wp2)
   go_ret
   exact ⟨sm_, dr_⟩
  ·rw [if_neg c10] at H
   have c10b0 : decide ((l0.length : Int) < (l1.length : Int)) = false := decide_eq_false c10
   have c10b1 : decide (l0.length < l1.length) = false := decide_eq_false (fun h => c10 (Int.ofNat_lt.mpr h))
   clear c10
   obtain rfl := Option.some.inj H
   go_enter Try.func48, Try.ntmps48
   go_wp2
   repeat (go_quiet (fail); try go_wp2)
   go_ret
   exact ⟨sm_, dr_⟩

/-! ### paymasterref02_less: function 49 -/
def paymasterref02_less.l0 : Nat → List Int → List Int → List Int → Int → Int → Option (List Int)
  | 0, _, _, _, _, _ => none
  | k + 1, x0, x1, x5, x6, x7 => if x7 < (x0.length : Int) then (if 0 ≤ x7 then (if x7 < (x1.length : Int) then (if (wrap64 ((wrap64 ((rd x0 x7) - x6)) - (rd x1 x7))) < 0 then (if x5.length < 17592186044416 then (paymasterref02_less.l0 k x0 x1 (x5 ++ [wrap64 ((wrap64 ((wrap64 ((rd x0 x7) - x6)) - (rd x1 x7))) + 10)]) 1 (wrap64 (x7 + 1))) else (none)) else (if x5.length < 17592186044416 then (paymasterref02_less.l0 k x0 x1 (x5 ++ [wrap64 ((wrap64 ((rd x0 x7) - x6)) - (rd x1 x7))]) 0 (wrap64 (x7 + 1))) else (none))) else (if (wrap64 ((rd x0 x7) - x6)) < 0 then (if x5.length < 17592186044416 then (paymasterref02_less.l0 k x0 x1 (x5 ++ [wrap64 ((wrap64 ((rd x0 x7) - x6)) + 10)]) 1 (wrap64 (x7 + 1))) else (none)) else (if x5.length < 17592186044416 then (paymasterref02_less.l0 k x0 x1 (x5 ++ [wrap64 ((rd x0 x7) - x6)]) 0 (wrap64 (x7 + 1))) else (none)))) else (none)) else ((paymasterref02_trim.f k x5).bind fun t373 => (some t373))
def paymasterref02_less.f (k : Nat) (l0 : List Int) (l1 : List Int) : Option (List Int) := paymasterref02_less.l0 k l0 l1 ([] : List Int) 0 0
set_option maxHeartbeats 8000000 in
set_option maxRecDepth 100000 in
theorem paymasterref02_less.calls (k : Nat) (A0 : Option Addr) (c0 : Nat) (l0 : List Int) (A1 : Option Addr) (c1 : Nat) (l1 : List Int) (r : List Int) (w : World) (hr0 : Kd.C (Kd.int .i64) w A0 l0.length l0) (hc0 : l0.length ≤ c0) (hr1 : Kd.C (Kd.int .i64) w A1 l1.length l1) (hc1 : l1.length ≤ c1) (h : paymasterref02_less.f k l0 l1 = some r) :
    Calls Try.prog 49 #[.slice A0 l0.length c0, .slice A1 l1.length c1] w fun e w' => ∃ v0_ : Value, e = .returned (v0_) ∧ Kd.V (Kd.int .i64) 3 w' w.heap.size (fun k_ => (w.heap.size ≤ k_)) v0_ r ∧ Below w.heap.size w w' := by
 have HR0 := Aside0.mk hr0
 have HC0 := Aside0.mk hc0
 clear hr0 hc0
 have HR1 := Aside0.mk hr1
 have HC1 := Aside0.mk hc1
 clear hr1 hc1
 have HB := Aside0.mk (Below.refl w.heap.size w)
 have H : (paymasterref02_less.l0 k l0 l1 ([] : List Int) 0 0) = some r := h
 clear h
 have H' := Aside0.mk H
 clear H
 go_enter Try.func49, Try.ntmps49
 go_wp2
 go_loopg [5, 6, 7] k (fun kq v5 v6 v7 w' => ∃ (x5_1 : List Int) (x6_1 : Int) (x7_1 : Int), v6 = .int .i64 x6_1 ∧ v7 = .int .i64 x7_1 ∧ Aside0 (paymasterref02_less.l0 kq l0 l1 x5_1 x6_1 x7_1 = some r) ∧ Aside0 (kq ≤ k) ∧ Aside0 (Kd.R (Kd.int .i64) 3 w' w.heap.size (fun k_ => (w.heap.size ≤ k_)) v5 x5_1) ∧ Aside0 (Below w.heap.size w w'))
 case atStart => exact ⟨(([] : List Int)), (0), (0), sm_, sm_, H', ⟨Nat.le_refl _⟩, ⟨kn_⟩, ⟨bl_⟩⟩
 case round =>
  clear H'
  try clear c1
  obtain ⟨x5_1, x6_1, x7_1, rfl, rfl, HA, HK1, HO_5, HB⟩ := hrel
  cases gk with
  | zero => exact absurd HA.out (by simp [paymasterref02_less.l0])
  | succ k1 =>
   have H := HA.out
   clear HA
   simp only [paymasterref02_less.l0] at H
   by_cases c3 : x7_1 < (l0.length : Int)
   ·rw [if_pos c3] at H
    have c3b0 : decide (x7_1 < (l0.length : Int)) = true := decide_eq_true c3
    clear c3
    by_cases c4 : 0 ≤ x7_1
    ·rw [if_pos c4] at H
     have c4b0 : decide (0 ≤ x7_1) = true := decide_eq_true c4
     clear c4
     by_cases c5 : x7_1 < (l1.length : Int)
     ·rw [if_pos c5] at H
      have c5b0 : decide (x7_1 < (l1.length : Int)) = true := decide_eq_true c5
      clear c5
      by_cases c6 : (wrap64 ((wrap64 ((rd l0 x7_1) - x6_1)) - (rd l1 x7_1))) < 0
      ·rw [if_pos c6] at H
       have c6b0 : decide ((wrap64 ((wrap64 ((rd l0 x7_1) - x6_1)) - (rd l1 x7_1))) < 0) = true := decide_eq_true c6
       clear c6
       by_cases c7 : x5_1.length < 17592186044416
       ·rw [if_pos c7] at H
        have LMc7 := Aside0.mk c7
        clear c7
        obtain ⟨y378, hy378⟩ : ∃ y_ : List Int, y_ = (x5_1 ++ [wrap64 ((wrap64 ((wrap64 ((rd l0 x7_1) - x6_1)) - (rd l1 x7_1))) + 10)]) := ⟨_, rfl⟩
        replace H : (paymasterref02_less.l0 k1 l0 l1 y378 1 (wrap64 (x7_1 + 1))) = some r := by first | (rw [hy378]; with_reducible exact H) | (have H2_ := (Option.bind_some _ _).symm.trans H; rw [hy378]; with_reducible exact H2_) | (have H2_ := (Option.bind_some _ _).symm.trans H; with_reducible exact H2_) | with_reducible exact H | (rw [hy378]; exact H) | exact H
        have Ny378 := Aside0.mk hy378
        clear hy378
        have H' := Aside0.mk H
        clear H
        have p376 : 0 ≤ (x7_1 : Int) := od_
        have q376 : x7_1 < (l0.length : Int) := od_
        obtain ⟨ad376, e376, hx376_0⟩ := Kd.at_int HR0.out x7_1 p376 q376
        cases e376
        replace hx376_0 := (HB.out.cell (World.block_lt_of_cell? w _ hx376_0)).trans hx376_0
        replace p376 := eq_true p376
        replace q376 := eq_true q376
        have p377 : 0 ≤ (x7_1 : Int) := od_
        have q377 : x7_1 < (l1.length : Int) := od_
        obtain ⟨ad377, e377, hx377_0⟩ := Kd.at_int HR1.out x7_1 p377 q377
        cases e377
        replace hx377_0 := (HB.out.cell (World.block_lt_of_cell? w _ hx377_0)).trans hx377_0
        replace p377 := eq_true p377
        replace q377 := eq_true q377
        go_wp2_with (first | ((with_reducible refine gate_builtin (b := .append) (xs := #[.tmp 35, .tmp 37]) rfl ?_); at_builtin; refine Kd.R_append (Kd.int .i64) (w0 := w) w.heap.size rfl (.tmp 35) (.tmp 37) 28 3 (.int .i64 0) 8 rfl Try.underlying28 info3 rfl (by decide) (by omega) u5 x5_1 (wrap64 ((wrap64 ((wrap64 ((rd l0 x7_1) - x6_1)) - (rd l1 x7_1))) + 10)) [.int .i64 (wrap64 ((wrap64 ((wrap64 ((rd l0 x7_1) - x6_1)) - (rd l1 x7_1))) + 10))] (fun k_ => (w.heap.size ≤ k_)) (fun _ => False) rfl rfl ?aP (fun _ hk => hk.elim) ?aF ?aO ?aB ?aS ?aL ?_; (case aP => exact rfl); (case aB => exact bl_); (case aF => exact (fun k_ hk => (Nat.le_trans (below_size bl_) hk))); (case aO => exact (rs_ HO_5.out)); (case aS => exact (below_size bl_)); (case aL => have := LMc7.out; omega); intro v379 w8 ho hb hg hat; rw [← Ny378.out] at ho; have HO380 := Aside0.mk (ho); replace HB := Aside0.mk (hb); clear HO_5; clear ho hb hg hat))
        go_roundg k1
        case measure => have := HK1.out; omega
        case rel => exact ⟨(y378), (1), (wrap64 (x7_1 + 1)), sm_, sm_, H', ⟨by have := HK1.out; omega⟩, ⟨rs_ HO380.out⟩, ⟨bl_⟩⟩
       ·rw [if_neg c7] at H
        exact absurd H (by simp)
      ·rw [if_neg c6] at H
       have c6b0 : decide ((wrap64 ((wrap64 ((rd l0 x7_1) - x6_1)) - (rd l1 x7_1))) < 0) = false := decide_eq_false c6
       clear c6
       by_cases c9 : x5_1.length < 17592186044416
       ·rw [if_pos c9] at H
        have LMc9 := Aside0.mk c9
        clear c9
        obtain ⟨y381, hy381⟩ : ∃ y_ : List Int, y_ = (x5_1 ++ [wrap64 ((wrap64 ((rd l0 x7_1) - x6_1)) - (rd l1 x7_1))]) := ⟨_, rfl⟩
        replace H : (paymasterref02_less.l0 k1 l0 l1 y381 0 (wrap64 (x7_1 + 1))) = some r := by first | (rw [hy381]; with_reducible exact H) | (have H2_ := (Option.bind_some _ _).symm.trans H; rw [hy381]; with_reducible exact H2_) | (have H2_ := (Option.bind_some _ _).symm.trans H; with_reducible exact H2_) | with_reducible exact H | (rw [hy381]; exact H) | exact H
        have Ny381 := Aside0.mk hy381
        clear hy381
        have H' := Aside0.mk H
        clear H
        have p376 : 0 ≤ (x7_1 : Int) := od_
        have q376 : x7_1 < (l0.length : Int) := od_
        obtain ⟨ad376, e376, hx376_0⟩ := Kd.at_int HR0.out x7_1 p376 q376
        cases e376
        replace hx376_0 := (HB.out.cell (World.block_lt_of_cell? w _ hx376_0)).trans hx376_0
        replace p376 := eq_true p376
        replace q376 := eq_true q376
        have p377 : 0 ≤ (x7_1 : Int) := od_
        have q377 : x7_1 < (l1.length : Int) := od_
        obtain ⟨ad377, e377, hx377_0⟩ := Kd.at_int HR1.out x7_1 p377 q377
        cases e377
        replace hx377_0 := (HB.out.cell (World.block_lt_of_cell? w _ hx377_0)).trans hx377_0
        replace p377 := eq_true p377
        replace q377 := eq_true q377
        go_wp2_with (first | ((with_reducible refine gate_builtin (b := .append) (xs := #[.tmp 35, .tmp 37]) rfl ?_); at_builtin; refine Kd.R_append (Kd.int .i64) (w0 := w) w.heap.size rfl (.tmp 35) (.tmp 37) 28 3 (.int .i64 0) 8 rfl Try.underlying28 info3 rfl (by decide) (by omega) u5 x5_1 (wrap64 ((wrap64 ((rd l0 x7_1) - x6_1)) - (rd l1 x7_1))) [.int .i64 (wrap64 ((wrap64 ((rd l0 x7_1) - x6_1)) - (rd l1 x7_1)))] (fun k_ => (w.heap.size ≤ k_)) (fun _ => False) rfl rfl ?aP (fun _ hk => hk.elim) ?aF ?aO ?aB ?aS ?aL ?_; (case aP => exact rfl); (case aB => exact bl_); (case aF => exact (fun k_ hk => (Nat.le_trans (below_size bl_) hk))); (case aO => exact (rs_ HO_5.out)); (case aS => exact (below_size bl_)); (case aL => have := LMc9.out; omega); intro v382 w10 ho hb hg hat; rw [← Ny381.out] at ho; have HO383 := Aside0.mk (ho); replace HB := Aside0.mk (hb); clear HO_5; clear ho hb hg hat))
        go_roundg k1
        case measure => have := HK1.out; omega
        case rel => exact ⟨(y381), (0), (wrap64 (x7_1 + 1)), sm_, sm_, H', ⟨by have := HK1.out; omega⟩, ⟨rs_ HO383.out⟩, ⟨bl_⟩⟩
       ·rw [if_neg c9] at H
        exact absurd H (by simp)
     ·rw [if_neg c5] at H
      have c5b0 : decide (x7_1 < (l1.length : Int)) = false := decide_eq_false c5
      clear c5
      by_cases c11 : (wrap64 ((rd l0 x7_1) - x6_1)) < 0
      ·rw [if_pos c11] at H
       have c11b0 : decide ((wrap64 ((rd l0 x7_1) - x6_1)) < 0) = true := decide_eq_true c11
       clear c11
       by_cases c12 : x5_1.length < 17592186044416
       ·rw [if_pos c12] at H
        have LMc12 := Aside0.mk c12
        clear c12
        obtain ⟨y384, hy384⟩ : ∃ y_ : List Int, y_ = (x5_1 ++ [wrap64 ((wrap64 ((rd l0 x7_1) - x6_1)) + 10)]) := ⟨_, rfl⟩
        replace H : (paymasterref02_less.l0 k1 l0 l1 y384 1 (wrap64 (x7_1 + 1))) = some r := by first | (rw [hy384]; with_reducible exact H) | (have H2_ := (Option.bind_some _ _).symm.trans H; rw [hy384]; with_reducible exact H2_) | (have H2_ := (Option.bind_some _ _).symm.trans H; with_reducible exact H2_) | with_reducible exact H | (rw [hy384]; exact H) | exact H
        have Ny384 := Aside0.mk hy384
        clear hy384
        have H' := Aside0.mk H
        clear H
        have p376 : 0 ≤ (x7_1 : Int) := od_
        have q376 : x7_1 < (l0.length : Int) := od_
        obtain ⟨ad376, e376, hx376_0⟩ := Kd.at_int HR0.out x7_1 p376 q376
        cases e376
        replace hx376_0 := (HB.out.cell (World.block_lt_of_cell? w _ hx376_0)).trans hx376_0
        replace p376 := eq_true p376
        replace q376 := eq_true q376
        go_wp2_with (first | ((with_reducible refine gate_builtin (b := .append) (xs := #[.tmp 35, .tmp 37]) rfl ?_); at_builtin; refine Kd.R_append (Kd.int .i64) (w0 := w) w.heap.size rfl (.tmp 35) (.tmp 37) 28 3 (.int .i64 0) 8 rfl Try.underlying28 info3 rfl (by decide) (by omega) u5 x5_1 (wrap64 ((wrap64 ((rd l0 x7_1) - x6_1)) + 10)) [.int .i64 (wrap64 ((wrap64 ((rd l0 x7_1) - x6_1)) + 10))] (fun k_ => (w.heap.size ≤ k_)) (fun _ => False) rfl rfl ?aP (fun _ hk => hk.elim) ?aF ?aO ?aB ?aS ?aL ?_; (case aP => exact rfl); (case aB => exact bl_); (case aF => exact (fun k_ hk => (Nat.le_trans (below_size bl_) hk))); (case aO => exact (rs_ HO_5.out)); (case aS => exact (below_size bl_)); (case aL => have := LMc12.out; omega); intro v385 w13 ho hb hg hat; rw [← Ny384.out] at ho; have HO386 := Aside0.mk (ho); replace HB := Aside0.mk (hb); clear HO_5; clear ho hb hg hat))
        go_roundg k1
        case measure => have := HK1.out; omega
        case rel => exact ⟨(y384), (1), (wrap64 (x7_1 + 1)), sm_, sm_, H', ⟨by have := HK1.out; omega⟩, ⟨rs_ HO386.out⟩, ⟨bl_⟩⟩
       ·rw [if_neg c12] at H
        exact absurd H (by simp)
      ·rw [if_neg c11] at H
       have c11b0 : decide ((wrap64 ((rd l0 x7_1) - x6_1)) < 0) = false := decide_eq_false c11
       clear c11
       by_cases c14 : x5_1.length < 17592186044416
       ·rw [if_pos c14] at H
        have LMc14 := Aside0.mk c14
        clear c14
        obtain ⟨y387, hy387⟩ : ∃ y_ : List Int, y_ = (x5_1 ++ [wrap64 ((rd l0 x7_1) - x6_1)]) := ⟨_, rfl⟩
        replace H : (paymasterref02_less.l0 k1 l0 l1 y387 0 (wrap64 (x7_1 + 1))) = some r := by first | (rw [hy387]; with_reducible exact H) | (have H2_ := (Option.bind_some _ _).symm.trans H; rw [hy387]; with_reducible exact H2_) | (have H2_ := (Option.bind_some _ _).symm.trans H; with_reducible exact H2_) | with_reducible exact H | (rw [hy387]; exact H) | exact H
        have Ny387 := Aside0.mk hy387
        clear hy387
        have H' := Aside0.mk H
        clear H
        have p376 : 0 ≤ (x7_1 : Int) := od_
        have q376 : x7_1 < (l0.length : Int) := od_
        obtain ⟨ad376, e376, hx376_0⟩ := Kd.at_int HR0.out x7_1 p376 q376
        cases e376
        replace hx376_0 := (HB.out.cell (World.block_lt_of_cell? w _ hx376_0)).trans hx376_0
        replace p376 := eq_true p376
        replace q376 := eq_true q376
        go_wp2_with (first | ((with_reducible refine gate_builtin (b := .append) (xs := #[.tmp 35, .tmp 37]) rfl ?_); at_builtin; refine Kd.R_append (Kd.int .i64) (w0 := w) w.heap.size rfl (.tmp 35) (.tmp 37) 28 3 (.int .i64 0) 8 rfl Try.underlying28 info3 rfl (by decide) (by omega) u5 x5_1 (wrap64 ((rd l0 x7_1) - x6_1)) [.int .i64 (wrap64 ((rd l0 x7_1) - x6_1))] (fun k_ => (w.heap.size ≤ k_)) (fun _ => False) rfl rfl ?aP (fun _ hk => hk.elim) ?aF ?aO ?aB ?aS ?aL ?_; (case aP => exact rfl); (case aB => exact bl_); (case aF => exact (fun k_ hk => (Nat.le_trans (below_size bl_) hk))); (case aO => exact (rs_ HO_5.out)); (case aS => exact (below_size bl_)); (case aL => have := LMc14.out; omega); intro v388 w15 ho hb hg hat; rw [← Ny387.out] at ho; have HO389 := Aside0.mk (ho); replace HB := Aside0.mk (hb); clear HO_5; clear ho hb hg hat))
        go_roundg k1
        case measure => have := HK1.out; omega
        case rel => exact ⟨(y387), (0), (wrap64 (x7_1 + 1)), sm_, sm_, H', ⟨by have := HK1.out; omega⟩, ⟨rs_ HO389.out⟩, ⟨bl_⟩⟩
       ·rw [if_neg c14] at H
        exact absurd H (by simp)
    ·rw [if_neg c4] at H
     exact absurd H (by simp)
   ·rw [if_neg c3] at H
    have c3b0 : decide (x7_1 < (l0.length : Int)) = false := decide_eq_false c3
    clear c3
    replace H := Option.bind_eq_some_iff.mp H
    obtain ⟨t373, A160, H⟩ := H
    (try dsimp only at H)
    have A16 := Aside0.mk A160
    clear A160
    obtain rfl := Option.some.inj H
    obtain ⟨Ao17, co17, eo17⟩ := Kd.R_slice HO_5.out
    subst eo17
    go_wp2_with (first | ((with_reducible refine gate_callee (f := 47) rfl ?_); refine goesL_ (some 40) rfl rfl Try.func47 (by kernel_rfl) rfl #[.slice Ao17 x5_1.length co17] rfl ga_ ?_; (with_reducible refine (paymasterref02_trim.calls k1 (fun k_ => some k_ = (.slice Ao17 x5_1.length co17 : Value).ownBlock) _ _ x5_1 t373 _ ?side1 A16.out).mono ?_); (case side1 => exact Kd.R_V (Kd.R_tight rfl (HO_5.out))); rintro e w18 ⟨v374, rfl, ho0, hb⟩; refine ⟨_, rfl, ?_⟩; have HO375 := Aside0.mk (Kd.V_lower (Kd.V_mono (ok' := fun k_ => (w.heap.size ≤ k_)) ho0 (fun k_ hk_ => Or.elim hk_ (fun hs_ => ((HO_5.out).1 k_ hs_.symm)) (fun hn_ => (Nat.le_trans (below_size bl_) hn_)))) (below_size bl_)); replace HO_5 := rl_ HO_5.out hb; replace HB := hs_ hb; (try clear hb); (try clear hb2); (try clear hk); (try clear hi); (try clear ho0)))
    go_ret
    exact ⟨_, se_, by refine kv_ ?_; exact HO375.out, bl_⟩

/-! ### paymasterref02_double: function 50 -/
def paymasterref02_double.f (k : Nat) (l0 : List Int) : Option (List Int) := (paymasterref02_Of.f k 2).bind fun bt390 => ((paymasterref02_Mul.f k false l0 bt390.1 bt390.2).bind fun bt394 => (some bt394.2))
theorem paymasterref02_double.field_L (b : Bool) (v : Value) (W : World) : (Instr.field 87 (.agg #[.bool b, v]) 1).run Try.prog W = .ok v W := by kernel_rfl
set_option maxHeartbeats 8000000 in
set_option maxRecDepth 100000 in
theorem paymasterref02_double.calls (k : Nat) (A0 : Option Addr) (c0 : Nat) (l0 : List Int) (r : List Int) (w : World) (hr0 : Kd.C (Kd.int .i64) w A0 l0.length l0) (hc0 : l0.length ≤ c0) (h : paymasterref02_double.f k l0 = some r) :
    Calls Try.prog 50 #[.slice A0 l0.length c0] w fun e w' => ∃ v0_ : Value, e = .returned (v0_) ∧ Kd.V (Kd.int .i64) 3 w' w.heap.size (fun k_ => (w.heap.size ≤ k_)) v0_ r ∧ Below w.heap.size w w' := by
 have hu87 := Try.underlying87
 have HR0 := Aside0.mk hr0
 have HC0 := Aside0.mk hc0
 clear hr0 hc0
 have HB := Aside0.mk (Below.refl w.heap.size w)
 have H : ((paymasterref02_Of.f k 2).bind fun bt390 => ((paymasterref02_Mul.f k false l0 bt390.1 bt390.2).bind fun bt394 => (some bt394.2))) = some r := h
 clear h
 replace H := Option.bind_eq_some_iff.mp H
 obtain ⟨⟨t390, t391⟩, A20, H⟩ := H
 (try dsimp only at H)
 have A2 := Aside0.mk A20
 clear A20
 replace H := Option.bind_eq_some_iff.mp H
 obtain ⟨⟨t394, t395⟩, A30, H⟩ := H
 (try dsimp only at H)
 have A3 := Aside0.mk A30
 clear A30
 obtain rfl := Option.some.inj H
 have hf_ := paymasterref02_double.field_L
 go_enter Try.func50, Try.ntmps50
 go_wp2_with (first | ((with_reducible refine gate_callee (f := 46) rfl ?_); refine goesL_ (some 5) rfl rfl Try.func46 (by kernel_rfl) rfl #[.int .i64 2] rfl ga_ ?_; (with_reducible refine (paymasterref02_Of.calls k 2 t390 t391 _ A2.out).mono ?_); rintro e w4 ⟨v392, rfl, ho0, hb⟩; refine ⟨_, rfl, ?_⟩; have HO393 := Aside0.mk (Kd.R_lower (Kd.R_newM (M := fun k_ => (w.heap.size ≤ k_)) ho0 (below_size bl_) (fun k_ h_ => h_)) (below_size bl_)); replace HB := hs_ hb; (try clear hb); (try clear hb2); (try clear hk); (try clear hi); (try clear ho0); obtain ⟨Ao5, co5, eo5⟩ := Kd.R_slice HO393.out; subst eo5) | ((with_reducible refine gate_callee (f := 45) rfl ?_); refine goesL_ (some 6) rfl rfl Try.func45 (by kernel_rfl) rfl #[.agg #[.bool false, .slice A0 l0.length c0], .agg #[.bool t390, .slice Ao5 t391.length co5]] rfl ga_ ?_; (with_reducible refine (paymasterref02_Mul.calls k false _ _ l0 t390 _ _ t391 t394 t395 _ ?side1 ?side2 ?side3 ?side4 A3.out).mono ?_); (case side1 => exact kc_ (Kd.C_below HR0.out HB.out)); (case side2 => exact HC0.out); (case side3 => exact kc_ (Kd.R_reads' HO393.out).2.2); (case side4 => exact (Kd.R_reads' HO393.out).2.1); rintro e w6 ⟨v396, rfl, ho0, hb⟩; refine ⟨_, rfl, ?_⟩; have HO397 := Aside0.mk (Kd.V_lower (Kd.V_mono (ok' := fun k_ => (w.heap.size ≤ k_) ∧ some k_ ≠ (.slice Ao5 t391.length co5 : Value).ownBlock) ho0 (fun k_ hk_ => ⟨(Nat.le_trans (below_size bl_) hk_), (Kd.fresh' (Kd.R_lt (rq_ HO393.out)) k_ hk_)⟩)) (below_size bl_)); replace HO393 := rl_ HO393.out hb; replace HB := hs_ hb; (try clear hb); (try clear hb2); (try clear hk); (try clear hi); (try clear ho0)))
 go_ret
 exact ⟨_, se_, by refine kv_ ?_; exact Kd.V_mono HO397.out (fun _ hk => hk.1), bl_⟩

end Go.Proofs.Ytocaneaofdbpoaa.PA
