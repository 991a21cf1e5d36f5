/- Contracts of the functions of the given program: written by wip/pmprint.py, a program of this session, which runs the print of the kit over altered functions. -/
import Derived.Test.YtocaneaofdbpoaaPAx0
namespace Go.Proofs.Ytocaneaofdbpoaa.PA
open Go.RowKit Go.Proofs.YtocaneaofdbpoaaW.PrintWords Go.Proofs.YtocaneaofdbpoaaW.PrintLast Go.Proofs.YtocaneaofdbpoaaW.PrintMore
attribute [local go_sem] max2_int min2_int max_two min_two max_three min_three max_four min_four   -- for this text's walks alone
set_option linter.unusedVariables false
set_option linter.unusedSimpArgs false

/-! ### paymasterref05_Right: function 28 -/
mutual
def paymasterref05_Right.j0 : Nat → List (S58) → Bool → Option (Bool)
  | 0, _, _ => none
  | k + 1, x0, x18 => if x18 = true then (some false) else (paymasterref05_Right.l0 k x0 0)
def paymasterref05_Right.l0 : Nat → List (S58) → Int → Option (Bool)
  | 0, _, _ => none
  | k + 1, x0, x3 => if x3 < (x0.length : Int) then (if 0 ≤ x3 then (if ((rd_T58 x0 x3).f1) < 0 then (some false) else (if ((rd_T58 x0 x3).f1) > 10000 then (some false) else (if x3 > 0 then (if 0 ≤ (wrap64 (x3 - 1)) then (if (wrap64 (x3 - 1)) < (x0.length : Int) then (if ((rd_T58 x0 x3).f0) ≤ ((rd_T58 x0 (wrap64 (x3 - 1))).f0) then (some false) else (paymasterref05_Right.l0 k x0 (wrap64 (x3 + 1)))) else (none)) else (none)) else (paymasterref05_Right.l0 k x0 (wrap64 (x3 + 1)))))) else (none)) else (some true)
end
def paymasterref05_Right.f (k : Nat) (l0 : List (S58)) : Option (Bool) := if (l0.length : Int) = 0 then (paymasterref05_Right.j0 k l0 true) else (if (l0.length : Int) > 12 then (paymasterref05_Right.j0 k l0 true) else (if 0 < (l0.length : Int) then (paymasterref05_Right.j0 k l0 (((rd_T58 l0 0).f0) != 0)) else (none)))
set_option maxHeartbeats 8000000 in
set_option maxRecDepth 100000 in
theorem paymasterref05_Right.calls (k : Nat) (A0 : Option Addr) (c0 : Nat) (l0 : List (S58)) (r : Bool) (w : World) (hr0 : Kd.C k58 w A0 l0.length l0) (hc0 : l0.length ≤ c0) (h : paymasterref05_Right.f k l0 = some r) :
    Calls Try.prog 28 #[.slice A0 l0.length c0] w fun e w' => e = .returned (.bool r) ∧ Drawn0 w w' := by
 have HR0 := Aside0.mk hr0
 have HC0 := Aside0.mk hc0
 clear hr0 hc0
 have H : (if (l0.length : Int) = 0 then (paymasterref05_Right.j0 k l0 true) else (if (l0.length : Int) > 12 then (paymasterref05_Right.j0 k l0 true) else (if 0 < (l0.length : Int) then (paymasterref05_Right.j0 k l0 (((rd_T58 l0 0).f0) != 0)) else (none)))) = some r := h
 clear h
 have HC2 := Aside0.mk H
 clear H
 go_enter Try.func28, Try.ntmps28
 go_upto_region 1 with (fail)
 repeat (go_quiet (fail); go_upto_region 1 with (fail))
 go_cut [18] (fun v18 wc => ∃ (kq : Nat) (x18_1 : Bool), v18 = .bool x18_1 ∧ Aside0 (paymasterref05_Right.j0 kq l0 x18_1 = some r) ∧ Aside0 (kq ≤ k) ∧ Drawn0 w wc)
 case first =>
  have H := HC2.out
  clear HC2
  by_cases c3 : (l0.length : Int) = 0
  ·rw [if_pos c3] at H
   have c3b0 : ((l0.length : Int) == 0) = true := beq_iff_eq.mpr c3
   have c3b1 : ((l0.length : Int) != 0) = false := bne_eq_false_iff_eq.mpr c3
   clear c3
   (first | rw [c3b0] | (simp only [i64_w, i32_w]; rw [c3b0]) | skip)
   have H' := Aside0.mk H
   clear H
   go_wp2
   repeat (go_quiet (fail); try go_wp2)
   go_meet
   case rel => exact ⟨_, (true), sm_, H', ⟨by first | omega | exact Nat.le_refl _⟩, dr_⟩
  ·rw [if_neg c3] at H
   have c3b0 : ((l0.length : Int) == 0) = false := beq_eq_false_iff_ne.mpr c3
   have c3b1 : ((l0.length : Int) != 0) = true := bne_iff_ne.mpr c3
   have c3b2 : ¬ (l0 = []) := fun h_ => c3 (by rw [h_]; rfl)
   (first | rw [c3b0] | (simp only [i64_w, i32_w]; rw [c3b0]) | skip)
   by_cases c4 : (l0.length : Int) > 12
   ·rw [if_pos c4] at H
    have c4b0 : decide (12 < (l0.length : Int)) = true := decide_eq_true c4
    have c4b1 : decide (12 < l0.length) = true := decide_eq_true (by omega)
    clear c4
    have H' := Aside0.mk H
    clear H
    go_wp2
    repeat (go_quiet (fail); try go_wp2)
    go_meet
    case rel => exact ⟨_, (true), sm_, H', ⟨by first | omega | exact Nat.le_refl _⟩, dr_⟩
   ·rw [if_neg c4] at H
    have c4b0 : decide (12 < (l0.length : Int)) = false := decide_eq_false c4
    have c4b1 : decide (12 < l0.length) = false := decide_eq_false (by omega)
    clear c4
    by_cases c5 : 0 < (l0.length : Int)
    ·rw [if_pos c5] at H
     have c5b0 : decide (0 < (l0.length : Int)) = true := decide_eq_true c5
     have c5b1 : decide (0 < l0.length) = true := decide_eq_true (by omega)
     clear c5
     have H' := Aside0.mk H
     clear H
     have p320 : 0 ≤ (0 : Int) := (by omega)
     have q320 : 0 < (l0.length : Int) := od_
     obtain ⟨ad320, e320, hx320_0, hx320_1⟩ := at_T58 HR0.out 0 p320 q320
     cases e320
     have qi320 : (0 < l0.length) = True := eq_true (by omega)
     (try rw [show ((0 : Int)).toNat = 0 from rfl] at hx320_0)
     (try rw [show 0 * 2 = 0 from rfl] at hx320_0)
     (try rw [Addr.add_zero'] at hx320_0)
     (try rw [show ((0 : Int)).toNat = 0 from rfl] at hx320_1)
     (try rw [show 0 * 2 = 0 from rfl] at hx320_1)
     (try rw [Addr.add_zero'] at hx320_1)
     replace p320 := eq_true p320
     replace q320 := eq_true q320
     go_wp2
     repeat (go_quiet (fail); try go_wp2)
     go_meet
     case rel => exact ⟨_, ((((rd_T58 l0 0).f0) != 0)), sm_, H', ⟨by first | omega | exact Nat.le_refl _⟩, dr_⟩
    ·rw [if_neg c5] at H
     exact absurd H (by simp)
 case rest =>
  clear HC2
  obtain ⟨kq, x18_1, rfl, HA, HJ1, ⟨mc1, rfl⟩⟩ := hcut
  cases kq with
  | zero => exact absurd HA.out (by simp [paymasterref05_Right.j0])
  | succ kj1 =>
   have H := HA.out
   clear HA
   simp only [paymasterref05_Right.j0] at H
   by_cases c6 : x18_1 = true
   ·subst c6
    rw [if_pos rfl] at H
    obtain rfl := Option.some.inj H
    go_wp2
    repeat (go_quiet (fail); try go_wp2)
    go_ret
    exact ⟨sm_, dr_⟩
   ·replace c6 := Bool.eq_false_iff.mpr c6
    subst c6
    rw [if_neg (show ¬ (false = true) by decide)] at H
    have H' := Aside0.mk H
    clear H
    go_wp2
    repeat (go_quiet (fail); try go_wp2)
    go_loopg [3] kj1 (fun kq v3 w' => ∃ (x3_2 : Int), v3 = .int .i64 x3_2 ∧ Aside0 (paymasterref05_Right.l0 kq l0 x3_2 = some r) ∧ Aside0 (kq ≤ kj1) ∧ Drawn0 w w')
    case atStart => exact ⟨(0), sm_, H', ⟨Nat.le_refl _⟩, dr_⟩
    case round =>
     clear H'
     try clear c6
     obtain ⟨x3_2, rfl, HA, HK2, ⟨m2, rfl⟩⟩ := hrel
     cases gk with
     | zero => exact absurd HA.out (by simp [paymasterref05_Right.l0])
     | succ k2 =>
      have H := HA.out
      clear HA
      simp only [paymasterref05_Right.l0] at H
      by_cases c7 : x3_2 < (l0.length : Int)
      ·rw [if_pos c7] at H
       have c7b0 : decide (x3_2 < (l0.length : Int)) = true := decide_eq_true c7
       clear c7
       by_cases c8 : 0 ≤ x3_2
       ·rw [if_pos c8] at H
        have c8b0 : decide (0 ≤ x3_2) = true := decide_eq_true c8
        clear c8
        by_cases c9 : ((rd_T58 l0 x3_2).f1) < 0
        ·rw [if_pos c9] at H
         have c9b0 : decide (((rd_T58 l0 x3_2).f1) < 0) = true := decide_eq_true c9
         clear c9
         obtain rfl := Option.some.inj H
         have p321 : 0 ≤ (x3_2 : Int) := od_
         have q321 : x3_2 < (l0.length : Int) := od_
         obtain ⟨ad321, e321, hx321_0, hx321_1⟩ := at_T58 HR0.out x3_2 p321 q321
         cases e321
         replace p321 := eq_true p321
         replace q321 := eq_true q321
         go_wp2
         repeat (go_quiet (fail); try go_wp2)
         go_ret
         exact ⟨sm_, dr_⟩
        ·rw [if_neg c9] at H
         have c9b0 : decide (((rd_T58 l0 x3_2).f1) < 0) = false := decide_eq_false c9
         clear c9
         by_cases c10 : ((rd_T58 l0 x3_2).f1) > 10000
         ·rw [if_pos c10] at H
          have c10b0 : decide (10000 < ((rd_T58 l0 x3_2).f1)) = true := decide_eq_true c10
          clear c10
          obtain rfl := Option.some.inj H
          have p321 : 0 ≤ (x3_2 : Int) := od_
          have q321 : x3_2 < (l0.length : Int) := od_
          obtain ⟨ad321, e321, hx321_0, hx321_1⟩ := at_T58 HR0.out x3_2 p321 q321
          cases e321
          replace p321 := eq_true p321
          replace q321 := eq_true q321
          have p322 : 0 ≤ (x3_2 : Int) := od_
          have q322 : x3_2 < (l0.length : Int) := od_
          obtain ⟨ad322, e322, hx322_0, hx322_1⟩ := at_T58 HR0.out x3_2 p322 q322
          obtain rfl : ad321 = ad322 := (by injection e322)
          replace p322 := eq_true p322
          replace q322 := eq_true q322
          go_wp2
          repeat (go_quiet (fail); try go_wp2)
          go_ret
          exact ⟨sm_, dr_⟩
         ·rw [if_neg c10] at H
          have c10b0 : decide (10000 < ((rd_T58 l0 x3_2).f1)) = false := decide_eq_false c10
          clear c10
          by_cases c11 : x3_2 > 0
          ·rw [if_pos c11] at H
           have c11b0 : decide (0 < x3_2) = true := decide_eq_true c11
           clear c11
           obtain ⟨ji12, hji12⟩ : ∃ j_ : Int, (wrap64 (x3_2 - 1)) = j_ := ⟨_, rfl⟩
           replace H : (if 0 ≤ (ji12) then (if (ji12) < (l0.length : Int) then (if ((rd_T58 l0 x3_2).f0) ≤ ((rd_T58 l0 (ji12)).f0) then (some false) else (paymasterref05_Right.l0 k2 l0 (wrap64 (x3_2 + 1)))) else (none)) else (none)) = some r := by first | (rw [hji12] at H; exact H) | (simp only [hji12] at H ⊢; exact H)
           have hji12w : (IntKind.i64.wrap (x3_2 - 1)) = ji12 := (i64_w _).trans hji12
           by_cases c13 : 0 ≤ (ji12)
           ·rw [if_pos c13] at H
            have c13b0 : decide (0 ≤ (ji12)) = true := decide_eq_true c13
            clear c13
            by_cases c14 : (ji12) < (l0.length : Int)
            ·rw [if_pos c14] at H
             have c14b0 : decide ((ji12) < (l0.length : Int)) = true := decide_eq_true c14
             clear c14
             by_cases c15 : ((rd_T58 l0 x3_2).f0) ≤ ((rd_T58 l0 (ji12)).f0)
             ·rw [if_pos c15] at H
              have c15b0 : decide (((rd_T58 l0 x3_2).f0) ≤ ((rd_T58 l0 (ji12)).f0)) = true := decide_eq_true c15
              clear c15
              obtain rfl := Option.some.inj H
              have p321 : 0 ≤ (x3_2 : Int) := od_
              have q321 : x3_2 < (l0.length : Int) := od_
              obtain ⟨ad321, e321, hx321_0, hx321_1⟩ := at_T58 HR0.out x3_2 p321 q321
              cases e321
              replace p321 := eq_true p321
              replace q321 := eq_true q321
              have p322 : 0 ≤ (x3_2 : Int) := od_
              have q322 : x3_2 < (l0.length : Int) := od_
              obtain ⟨ad322, e322, hx322_0, hx322_1⟩ := at_T58 HR0.out x3_2 p322 q322
              obtain rfl : ad321 = ad322 := (by injection e322)
              replace p322 := eq_true p322
              replace q322 := eq_true q322
              have p323 : 0 ≤ (x3_2 : Int) := od_
              have q323 : x3_2 < (l0.length : Int) := od_
              obtain ⟨ad323, e323, hx323_0, hx323_1⟩ := at_T58 HR0.out x3_2 p323 q323
              obtain rfl : ad321 = ad323 := (by injection e323)
              replace p323 := eq_true p323
              replace q323 := eq_true q323
              have p324 : 0 ≤ ((ji12) : Int) := od_
              have q324 : (ji12) < (l0.length : Int) := od_
              obtain ⟨ad324, e324, hx324_0, hx324_1⟩ := at_T58 HR0.out (ji12) p324 q324
              obtain rfl : ad321 = ad324 := (by injection e324)
              replace p324 := eq_true p324
              replace q324 := eq_true q324
              go_wp2
              repeat (go_quiet (fail); try go_wp2)
              go_ret
              exact ⟨by first | rfl | (simp; done) | (simp only [← hji12] <;> (first | rfl | simp)) | (simp [*]; done), dr_⟩
             ·rw [if_neg c15] at H
              have c15b0 : decide (((rd_T58 l0 x3_2).f0) ≤ ((rd_T58 l0 (ji12)).f0)) = false := decide_eq_false c15
              clear c15
              have H' := Aside0.mk H
              clear H
              have p321 : 0 ≤ (x3_2 : Int) := od_
              have q321 : x3_2 < (l0.length : Int) := od_
              obtain ⟨ad321, e321, hx321_0, hx321_1⟩ := at_T58 HR0.out x3_2 p321 q321
              cases e321
              replace p321 := eq_true p321
              replace q321 := eq_true q321
              have p322 : 0 ≤ (x3_2 : Int) := od_
              have q322 : x3_2 < (l0.length : Int) := od_
              obtain ⟨ad322, e322, hx322_0, hx322_1⟩ := at_T58 HR0.out x3_2 p322 q322
              obtain rfl : ad321 = ad322 := (by injection e322)
              replace p322 := eq_true p322
              replace q322 := eq_true q322
              have p323 : 0 ≤ (x3_2 : Int) := od_
              have q323 : x3_2 < (l0.length : Int) := od_
              obtain ⟨ad323, e323, hx323_0, hx323_1⟩ := at_T58 HR0.out x3_2 p323 q323
              obtain rfl : ad321 = ad323 := (by injection e323)
              replace p323 := eq_true p323
              replace q323 := eq_true q323
              have p324 : 0 ≤ ((ji12) : Int) := od_
              have q324 : (ji12) < (l0.length : Int) := od_
              obtain ⟨ad324, e324, hx324_0, hx324_1⟩ := at_T58 HR0.out (ji12) p324 q324
              obtain rfl : ad321 = ad324 := (by injection e324)
              replace p324 := eq_true p324
              replace q324 := eq_true q324
              go_wp2
              repeat (go_quiet (fail); try go_wp2)
              go_roundg k2
              case measure => have := HJ1.out; have := HK2.out; omega
              case rel => exact ⟨(wrap64 (x3_2 + 1)), sm_, H', ⟨by have := HJ1.out; have := HK2.out; omega⟩, dr_⟩
            ·rw [if_neg c14] at H
             exact absurd H (by simp)
           ·rw [if_neg c13] at H
            exact absurd H (by simp)
          ·rw [if_neg c11] at H
           have c11b0 : decide (0 < x3_2) = false := decide_eq_false c11
           clear c11
           have H' := Aside0.mk H
           clear H
           have p321 : 0 ≤ (x3_2 : Int) := od_
           have q321 : x3_2 < (l0.length : Int) := od_
           obtain ⟨ad321, e321, hx321_0, hx321_1⟩ := at_T58 HR0.out x3_2 p321 q321
           cases e321
           replace p321 := eq_true p321
           replace q321 := eq_true q321
           have p322 : 0 ≤ (x3_2 : Int) := od_
           have q322 : x3_2 < (l0.length : Int) := od_
           obtain ⟨ad322, e322, hx322_0, hx322_1⟩ := at_T58 HR0.out x3_2 p322 q322
           obtain rfl : ad321 = ad322 := (by injection e322)
           replace p322 := eq_true p322
           replace q322 := eq_true q322
           go_wp2
           repeat (go_quiet (fail); try go_wp2)
           go_roundg k2
           case measure => have := HJ1.out; have := HK2.out; omega
           case rel => exact ⟨(wrap64 (x3_2 + 1)), sm_, H', ⟨by have := HJ1.out; have := HK2.out; omega⟩, dr_⟩
       ·rw [if_neg c8] at H
        exact absurd H (by simp)
      ·rw [if_neg c7] at H
       have c7b0 : decide (x3_2 < (l0.length : Int)) = false := decide_eq_false c7
       clear c7
       obtain rfl := Option.some.inj H
       go_wp2
       repeat (go_quiet (fail); try go_wp2)
       go_ret
       exact ⟨sm_, dr_⟩

/-! ### paymasterref14_Right: function 15 -/
mutual
def paymasterref14_Right.j0 : Nat → Bool → List (S58) → List (S68) → Option (Bool)
  | 0, _, _, _ => none
  | k + 1, x14, x326000, x326001 => if x14 = true then (some false) else (paymasterref14_Right.l0 k x326001 (x326001.length : Int) 0)
def paymasterref14_Right.l0 : Nat → List (S68) → Int → Int → Option (Bool)
  | 0, _, _, _ => none
  | k + 1, x16, x17, x18 => if x18 < x17 then (if 0 ≤ x18 then (if x18 < (x16.length : Int) then (if ((rd_T68 x16 x18).f0) < 0 then (some false) else (if ((rd_T68 x16 x18).f0) > 10000 then (some false) else (if ((rd_T68 x16 x18).f1) < 0 then (some false) else (if ((rd_T68 x16 x18).f1) > 10000 then (some false) else (if ((rd_T68 x16 x18).f2) < 0 then (some false) else (paymasterref14_Right.l0 k x16 x17 (wrap64 (x18 + 1)))))))) else (none)) else (none)) else (some true)
end
def paymasterref14_Right.f (k : Nat) (l0_0 : List (S58)) (l0_1 : List (S68)) : Option (Bool) := (paymasterref05_Right.f k l0_0).bind fun t326 => (if t326 = true then (paymasterref14_Right.j0 k (decide ((l0_1.length : Int) > 6)) l0_0 l0_1) else (paymasterref14_Right.j0 k true l0_0 l0_1))
set_option maxHeartbeats 8000000 in
set_option maxRecDepth 100000 in
theorem paymasterref14_Right.calls (k : Nat) (A0_0 : Option Addr) (c0_0 : Nat) (l0_0 : List (S58)) (A0_1 : Option Addr) (c0_1 : Nat) (l0_1 : List (S68)) (r : Bool) (w : World) (hr0_0 : Kd.C k58 w A0_0 l0_0.length l0_0) (hc0_0 : l0_0.length ≤ c0_0) (hr0_1 : Kd.C k68 w A0_1 l0_1.length l0_1) (hc0_1 : l0_1.length ≤ c0_1) (h : paymasterref14_Right.f k l0_0 l0_1 = some r) :
    Calls Try.prog 15 #[.agg #[.slice A0_0 l0_0.length c0_0, .slice A0_1 l0_1.length c0_1]] w fun e w' => e = .returned (.bool r) ∧ Below w.heap.size w w' := by
 have hu46 := Try.underlying46
 have hu68 := Try.underlying68
 have HR0_0 := Aside0.mk hr0_0
 have HC0_0 := Aside0.mk hc0_0
 clear hr0_0 hc0_0
 have HR0_1 := Aside0.mk hr0_1
 have HC0_1 := Aside0.mk hc0_1
 clear hr0_1 hc0_1
 have HB := Aside0.mk (Below.refl w.heap.size w)
 have H : ((paymasterref05_Right.f k l0_0).bind fun t326 => (if t326 = true then (paymasterref14_Right.j0 k (decide ((l0_1.length : Int) > 6)) l0_0 l0_1) else (paymasterref14_Right.j0 k true l0_0 l0_1))) = some r := h
 clear h
 have HC2 := Aside0.mk H
 clear H
 go_enter Try.func15, Try.ntmps15
 go_upto_region 1 with (first | ((with_reducible refine gate_dst (N := 1) rfl ?_); (try (refine gate_guard (by rfl) ?_; dsimp only)); refine bx_ 1 #[.slice A0_0 l0_0.length c0_0, .slice A0_1 l0_1.length c0_1] 46 ?_; intro gb325 hg w3 hbox hb; have BK325 := Aside0.mk hbox; have GW325 := gs_ hg; have GE325 := gs_ hg; replace HB := hs_ hb; clear hb hbox hg))
 (try simp only [Act.put, List.setIfInBounds_toArray, List.set_cons_zero, List.set_cons_succ])
 go_cut [14] (fun v14 wc => ∃ (kq : Nat) (x14_1 : Bool), v14 = .bool x14_1 ∧ Aside0 (paymasterref14_Right.j0 kq x14_1 l0_0 l0_1 = some r) ∧ Aside0 (kq ≤ k) ∧ Aside0 (wc.heap[gb325]? = some (.cells #[(.slice A0_0 l0_0.length c0_0), (.slice A0_1 l0_1.length c0_1)] 46 (0, 0))) ∧ Aside0 (Below w.heap.size w wc))
 case first =>
  have H := HC2.out
  clear HC2
  replace H := Option.bind_eq_some_iff.mp H
  obtain ⟨t326, A40, H⟩ := H
  (try dsimp only at H)
  have A4 := Aside0.mk A40
  clear A40
  by_cases c5 : t326 = true
  ·subst c5
   rw [if_pos rfl] at H
   have H' := Aside0.mk H
   clear H
   obtain ⟨hcz6_0, hcz6_1, hfz6_0, hfz6_1⟩ := c2_ BK325.out
   go_wp2_with (first | ((with_reducible refine gate_callee (f := 28) rfl ?_); refine goesL_ (some 7) rfl rfl Try.func28 (by kernel_rfl) rfl #[.slice A0_0 l0_0.length c0_0] rfl ga_ ?_; (with_reducible refine (paymasterref05_Right.calls k _ _ l0_0 true _ ?side1 ?side2 A4.out).mono ?_); (case side1 => exact kc_ (Kd.C_below HR0_0.out HB.out)); (case side2 => exact HC0_0.out); rintro e w' ⟨rfl, ⟨nd, rfl⟩⟩; refine ⟨_, rfl, ?_⟩))
   go_meet
   case rel => exact ⟨_, (decide ((l0_1.length : Int) > 6)), sm_, H', ⟨by first | omega | exact Nat.le_refl _⟩, ⟨bq_ BK325.out⟩, ⟨bl_⟩⟩
  ·replace c5 := Bool.eq_false_iff.mpr c5
   subst c5
   rw [if_neg (show ¬ (false = true) by decide)] at H
   have H' := Aside0.mk H
   clear H
   obtain ⟨hcz7_0, hcz7_1, hfz7_0, hfz7_1⟩ := c2_ BK325.out
   go_wp2_with (first | ((with_reducible refine gate_callee (f := 28) rfl ?_); refine goesL_ (some 7) rfl rfl Try.func28 (by kernel_rfl) rfl #[.slice A0_0 l0_0.length c0_0] rfl ga_ ?_; (with_reducible refine (paymasterref05_Right.calls k _ _ l0_0 false _ ?side1 ?side2 A4.out).mono ?_); (case side1 => exact kc_ (Kd.C_below HR0_0.out HB.out)); (case side2 => exact HC0_0.out); rintro e w' ⟨rfl, ⟨nd, rfl⟩⟩; refine ⟨_, rfl, ?_⟩))
   go_meet
   case rel => exact ⟨_, (true), sm_, H', ⟨by first | omega | exact Nat.le_refl _⟩, ⟨bq_ BK325.out⟩, ⟨bl_⟩⟩
 case rest =>
  clear HC2
  obtain ⟨kq, x14_1, rfl, HA, HJ1, BK325, HB⟩ := hcut
  cases kq with
  | zero => exact absurd HA.out (by simp [paymasterref14_Right.j0])
  | succ kj1 =>
   have H := HA.out
   clear HA
   simp only [paymasterref14_Right.j0] at H
   by_cases c8 : x14_1 = true
   ·subst c8
    rw [if_pos rfl] at H
    obtain rfl := Option.some.inj H
    go_wp2
    go_ret
    exact ⟨se_, bl_⟩
   ·replace c8 := Bool.eq_false_iff.mpr c8
    subst c8
    rw [if_neg (show ¬ (false = true) by decide)] at H
    have H' := Aside0.mk H
    clear H
    obtain ⟨hcz9_0, hcz9_1, hfz9_0, hfz9_1⟩ := c2_ BK325.out
    go_wp2
    go_loopg [18] kj1 (fun kq v18 w' => ∃ (x18_2 : Int), v18 = .int .i64 x18_2 ∧ Aside0 (paymasterref14_Right.l0 kq l0_1 (l0_1.length : Int) x18_2 = some r) ∧ Aside0 (kq ≤ kj1) ∧ Aside0 (w'.heap[gb325]? = some (.cells #[(.slice A0_0 l0_0.length c0_0), (.slice A0_1 l0_1.length c0_1)] 46 (0, 0))) ∧ Aside0 (Below w.heap.size w w'))
    case atStart => exact ⟨(0), sm_, H', ⟨Nat.le_refl _⟩, ⟨bq_ BK325.out⟩, ⟨bl_⟩⟩
    case round =>
     clear H'
     try clear c8; try clear hcz9_0; try clear hcz9_1; try clear hfz9_0; try clear hfz9_1
     obtain ⟨x18_2, rfl, HA, HK2, BK325, HB⟩ := hrel
     cases gk with
     | zero => exact absurd HA.out (by simp [paymasterref14_Right.l0])
     | succ k2 =>
      have H := HA.out
      clear HA
      simp only [paymasterref14_Right.l0] at H
      by_cases c10 : x18_2 < (l0_1.length : Int)
      ·rw [if_pos c10] at H
       have c10b0 : decide (x18_2 < (l0_1.length : Int)) = true := decide_eq_true c10
       clear c10
       by_cases c11 : 0 ≤ x18_2
       ·rw [if_pos c11] at H
        have c11b0 : decide (0 ≤ x18_2) = true := decide_eq_true c11
        clear c11
        by_cases c12 : x18_2 < (l0_1.length : Int)
        ·rw [if_pos c12] at H
         have c12b0 : decide (x18_2 < (l0_1.length : Int)) = true := decide_eq_true c12
         clear c12
         by_cases c13 : ((rd_T68 l0_1 x18_2).f0) < 0
         ·rw [if_pos c13] at H
          have c13b0 : decide (((rd_T68 l0_1 x18_2).f0) < 0) = true := decide_eq_true c13
          clear c13
          obtain rfl := Option.some.inj H
          have p327 : 0 ≤ (x18_2 : Int) := od_
          have q327 : x18_2 < (l0_1.length : Int) := od_
          obtain ⟨ad327, e327, hx327_0, hx327_1, hx327_2⟩ := at_T68 HR0_1.out x18_2 p327 q327
          cases e327
          replace hx327_0 := (HB.out.cell (World.block_lt_of_cell? w _ hx327_0)).trans hx327_0
          replace hx327_1 := (HB.out.cell (World.block_lt_of_cell? w _ hx327_1)).trans hx327_1
          replace hx327_2 := (HB.out.cell (World.block_lt_of_cell? w _ hx327_2)).trans hx327_2
          replace p327 := eq_true p327
          replace q327 := eq_true q327
          go_wp2_with (first | ((with_reducible refine gate_dst (N := 4) rfl ?_); (try (refine gate_guard (by rfl) ?_; dsimp only)); refine bx_ 4 #[.int .i64 0, .int .i64 0, .int .i64 0] 68 ?_; intro gb328 hg w14 hbox hb; have BK328 := Aside0.mk hbox; have GW328 := gs_ hg; have GE328 := gs_ hg; have NB325_328 := nl_ hg BK325.out; have NB328_325 := ng_ hg BK325.out; replace BK325 := bb_ BK325.out hb; replace HB := hs_ hb; clear hb hbox hg; have hnb15 := NB328_325.out; have hnc15 := NB325_328.out; obtain ⟨hcz16_0, hcz16_1, hcz16_2, hfz16_0, hfz16_1, hfz16_2⟩ := c3_ BK328.out))
          go_ret
          exact ⟨se_, bl_⟩
         ·rw [if_neg c13] at H
          have c13b0 : decide (((rd_T68 l0_1 x18_2).f0) < 0) = false := decide_eq_false c13
          clear c13
          by_cases c17 : ((rd_T68 l0_1 x18_2).f0) > 10000
          ·rw [if_pos c17] at H
           have c17b0 : decide (10000 < ((rd_T68 l0_1 x18_2).f0)) = true := decide_eq_true c17
           clear c17
           obtain rfl := Option.some.inj H
           have p327 : 0 ≤ (x18_2 : Int) := od_
           have q327 : x18_2 < (l0_1.length : Int) := od_
           obtain ⟨ad327, e327, hx327_0, hx327_1, hx327_2⟩ := at_T68 HR0_1.out x18_2 p327 q327
           cases e327
           replace hx327_0 := (HB.out.cell (World.block_lt_of_cell? w _ hx327_0)).trans hx327_0
           replace hx327_1 := (HB.out.cell (World.block_lt_of_cell? w _ hx327_1)).trans hx327_1
           replace hx327_2 := (HB.out.cell (World.block_lt_of_cell? w _ hx327_2)).trans hx327_2
           replace p327 := eq_true p327
           replace q327 := eq_true q327
           go_wp2_with (first | ((with_reducible refine gate_dst (N := 4) rfl ?_); (try (refine gate_guard (by rfl) ?_; dsimp only)); refine bx_ 4 #[.int .i64 0, .int .i64 0, .int .i64 0] 68 ?_; intro gb328 hg w18 hbox hb; have BK328 := Aside0.mk hbox; have GW328 := gs_ hg; have GE328 := gs_ hg; have NB325_328 := nl_ hg BK325.out; have NB328_325 := ng_ hg BK325.out; replace BK325 := bb_ BK325.out hb; replace HB := hs_ hb; clear hb hbox hg; have hnb19 := NB328_325.out; have hnc19 := NB325_328.out; obtain ⟨hcz20_0, hcz20_1, hcz20_2, hfz20_0, hfz20_1, hfz20_2⟩ := c3_ BK328.out))
           go_ret
           exact ⟨se_, bl_⟩
          ·rw [if_neg c17] at H
           have c17b0 : decide (10000 < ((rd_T68 l0_1 x18_2).f0)) = false := decide_eq_false c17
           clear c17
           by_cases c21 : ((rd_T68 l0_1 x18_2).f1) < 0
           ·rw [if_pos c21] at H
            have c21b0 : decide (((rd_T68 l0_1 x18_2).f1) < 0) = true := decide_eq_true c21
            clear c21
            obtain rfl := Option.some.inj H
            have p327 : 0 ≤ (x18_2 : Int) := od_
            have q327 : x18_2 < (l0_1.length : Int) := od_
            obtain ⟨ad327, e327, hx327_0, hx327_1, hx327_2⟩ := at_T68 HR0_1.out x18_2 p327 q327
            cases e327
            replace hx327_0 := (HB.out.cell (World.block_lt_of_cell? w _ hx327_0)).trans hx327_0
            replace hx327_1 := (HB.out.cell (World.block_lt_of_cell? w _ hx327_1)).trans hx327_1
            replace hx327_2 := (HB.out.cell (World.block_lt_of_cell? w _ hx327_2)).trans hx327_2
            replace p327 := eq_true p327
            replace q327 := eq_true q327
            go_wp2_with (first | ((with_reducible refine gate_dst (N := 4) rfl ?_); (try (refine gate_guard (by rfl) ?_; dsimp only)); refine bx_ 4 #[.int .i64 0, .int .i64 0, .int .i64 0] 68 ?_; intro gb328 hg w22 hbox hb; have BK328 := Aside0.mk hbox; have GW328 := gs_ hg; have GE328 := gs_ hg; have NB325_328 := nl_ hg BK325.out; have NB328_325 := ng_ hg BK325.out; replace BK325 := bb_ BK325.out hb; replace HB := hs_ hb; clear hb hbox hg; have hnb23 := NB328_325.out; have hnc23 := NB325_328.out; obtain ⟨hcz24_0, hcz24_1, hcz24_2, hfz24_0, hfz24_1, hfz24_2⟩ := c3_ BK328.out))
            go_ret
            exact ⟨se_, bl_⟩
           ·rw [if_neg c21] at H
            have c21b0 : decide (((rd_T68 l0_1 x18_2).f1) < 0) = false := decide_eq_false c21
            clear c21
            by_cases c25 : ((rd_T68 l0_1 x18_2).f1) > 10000
            ·rw [if_pos c25] at H
             have c25b0 : decide (10000 < ((rd_T68 l0_1 x18_2).f1)) = true := decide_eq_true c25
             clear c25
             obtain rfl := Option.some.inj H
             have p327 : 0 ≤ (x18_2 : Int) := od_
             have q327 : x18_2 < (l0_1.length : Int) := od_
             obtain ⟨ad327, e327, hx327_0, hx327_1, hx327_2⟩ := at_T68 HR0_1.out x18_2 p327 q327
             cases e327
             replace hx327_0 := (HB.out.cell (World.block_lt_of_cell? w _ hx327_0)).trans hx327_0
             replace hx327_1 := (HB.out.cell (World.block_lt_of_cell? w _ hx327_1)).trans hx327_1
             replace hx327_2 := (HB.out.cell (World.block_lt_of_cell? w _ hx327_2)).trans hx327_2
             replace p327 := eq_true p327
             replace q327 := eq_true q327
             go_wp2_with (first | ((with_reducible refine gate_dst (N := 4) rfl ?_); (try (refine gate_guard (by rfl) ?_; dsimp only)); refine bx_ 4 #[.int .i64 0, .int .i64 0, .int .i64 0] 68 ?_; intro gb328 hg w26 hbox hb; have BK328 := Aside0.mk hbox; have GW328 := gs_ hg; have GE328 := gs_ hg; have NB325_328 := nl_ hg BK325.out; have NB328_325 := ng_ hg BK325.out; replace BK325 := bb_ BK325.out hb; replace HB := hs_ hb; clear hb hbox hg; have hnb27 := NB328_325.out; have hnc27 := NB325_328.out; obtain ⟨hcz28_0, hcz28_1, hcz28_2, hfz28_0, hfz28_1, hfz28_2⟩ := c3_ BK328.out))
             go_ret
             exact ⟨se_, bl_⟩
            ·rw [if_neg c25] at H
             have c25b0 : decide (10000 < ((rd_T68 l0_1 x18_2).f1)) = false := decide_eq_false c25
             clear c25
             by_cases c29 : ((rd_T68 l0_1 x18_2).f2) < 0
             ·rw [if_pos c29] at H
              have c29b0 : decide (((rd_T68 l0_1 x18_2).f2) < 0) = true := decide_eq_true c29
              clear c29
              obtain rfl := Option.some.inj H
              have p327 : 0 ≤ (x18_2 : Int) := od_
              have q327 : x18_2 < (l0_1.length : Int) := od_
              obtain ⟨ad327, e327, hx327_0, hx327_1, hx327_2⟩ := at_T68 HR0_1.out x18_2 p327 q327
              cases e327
              replace hx327_0 := (HB.out.cell (World.block_lt_of_cell? w _ hx327_0)).trans hx327_0
              replace hx327_1 := (HB.out.cell (World.block_lt_of_cell? w _ hx327_1)).trans hx327_1
              replace hx327_2 := (HB.out.cell (World.block_lt_of_cell? w _ hx327_2)).trans hx327_2
              replace p327 := eq_true p327
              replace q327 := eq_true q327
              go_wp2_with (first | ((with_reducible refine gate_dst (N := 4) rfl ?_); (try (refine gate_guard (by rfl) ?_; dsimp only)); refine bx_ 4 #[.int .i64 0, .int .i64 0, .int .i64 0] 68 ?_; intro gb328 hg w30 hbox hb; have BK328 := Aside0.mk hbox; have GW328 := gs_ hg; have GE328 := gs_ hg; have NB325_328 := nl_ hg BK325.out; have NB328_325 := ng_ hg BK325.out; replace BK325 := bb_ BK325.out hb; replace HB := hs_ hb; clear hb hbox hg; have hnb31 := NB328_325.out; have hnc31 := NB325_328.out; obtain ⟨hcz32_0, hcz32_1, hcz32_2, hfz32_0, hfz32_1, hfz32_2⟩ := c3_ BK328.out))
              go_ret
              exact ⟨se_, bl_⟩
             ·rw [if_neg c29] at H
              have c29b0 : decide (((rd_T68 l0_1 x18_2).f2) < 0) = false := decide_eq_false c29
              clear c29
              have H' := Aside0.mk H
              clear H
              have p327 : 0 ≤ (x18_2 : Int) := od_
              have q327 : x18_2 < (l0_1.length : Int) := od_
              obtain ⟨ad327, e327, hx327_0, hx327_1, hx327_2⟩ := at_T68 HR0_1.out x18_2 p327 q327
              cases e327
              replace hx327_0 := (HB.out.cell (World.block_lt_of_cell? w _ hx327_0)).trans hx327_0
              replace hx327_1 := (HB.out.cell (World.block_lt_of_cell? w _ hx327_1)).trans hx327_1
              replace hx327_2 := (HB.out.cell (World.block_lt_of_cell? w _ hx327_2)).trans hx327_2
              replace p327 := eq_true p327
              replace q327 := eq_true q327
              go_wp2_with (first | ((with_reducible refine gate_dst (N := 4) rfl ?_); (try (refine gate_guard (by rfl) ?_; dsimp only)); refine bx_ 4 #[.int .i64 0, .int .i64 0, .int .i64 0] 68 ?_; intro gb328 hg w33 hbox hb; have BK328 := Aside0.mk hbox; have GW328 := gs_ hg; have GE328 := gs_ hg; have NB325_328 := nl_ hg BK325.out; have NB328_325 := ng_ hg BK325.out; replace BK325 := bb_ BK325.out hb; replace HB := hs_ hb; clear hb hbox hg; have hnb34 := NB328_325.out; have hnc34 := NB325_328.out; obtain ⟨hcz35_0, hcz35_1, hcz35_2, hfz35_0, hfz35_1, hfz35_2⟩ := c3_ BK328.out))
              go_roundg k2
              case measure => have := HJ1.out; have := HK2.out; omega
              case rel => exact ⟨(wrap64 (x18_2 + 1)), sm_, H', ⟨by have := HJ1.out; have := HK2.out; omega⟩, ⟨bf_ BK325.out⟩, ⟨bl_⟩⟩
        ·rw [if_neg c12] at H
         exact absurd H (by simp)
       ·rw [if_neg c11] at H
        exact absurd H (by simp)
      ·rw [if_neg c10] at H
       have c10b0 : decide (x18_2 < (l0_1.length : Int)) = false := decide_eq_false c10
       clear c10
       obtain rfl := Option.some.inj H
       go_wp2
       go_ret
       exact ⟨se_, bl_⟩

/-! ### paymasterlaw14_ref: function 16 -/
def paymasterlaw14_ref.l0 : Nat → List (S41) → Int → Int → List (S58) → List (S68) → Option ((List (S58)) × (List (S68)))
  | 0, _, _, _, _, _ => none
  | k + 1, x10, x11, x12, x332000, x332001 => if x12 < x11 then (if 0 ≤ x12 then (if x12 < (x10.length : Int) then (if x332001.length < 5864062014805 then (paymasterlaw14_ref.l0 k x10 x11 (wrap64 (x12 + 1)) x332000 (x332001 ++ [(⟨(rd_T41 x10 x12).f0, (rd_T41 x10 x12).f1, (rd_T41 x10 x12).f2⟩ : S68)])) else (none)) else (none)) else (none)) else (some (x332000, x332001))
def paymasterlaw14_ref.f (k : Nat) (l0_0 : List (S58)) (l0_1 : List (S41)) : Option ((List (S58)) × (List (S68))) := paymasterlaw14_ref.l0 k l0_1 (l0_1.length : Int) 0 l0_0 ([] : List (S68))
set_option maxHeartbeats 8000000 in
set_option maxRecDepth 100000 in
theorem paymasterlaw14_ref.calls (k : Nat) (P0_0_ : Nat → Prop) (A0_0 : Option Addr) (c0_0 : Nat) (l0_0 : List (S58)) (A0_1 : Option Addr) (c0_1 : Nat) (l0_1 : List (S41)) (r1 : List (S58)) (r2 : List (S68)) (w : World) (hs0_0 : Kd.V k58 58 w w.heap.size (fun k_ => P0_0_ k_) (.slice A0_0 l0_0.length c0_0) l0_0) (hr0_1 : Kd.C k41 w A0_1 l0_1.length l0_1) (hc0_1 : l0_1.length ≤ c0_1) (h : paymasterlaw14_ref.f k l0_0 l0_1 = some (r1, r2)) :
    Calls Try.prog 16 #[.agg #[.slice A0_0 l0_0.length c0_0, .slice A0_1 l0_1.length c0_1]] w fun e w' => ∃ v0_ v1_ : Value, e = .returned (.agg #[v0_, v1_]) ∧ Kd.V k58 58 w' w.heap.size (fun k_ => (P0_0_ k_ ∨ w.heap.size ≤ k_) ∧ some k_ ≠ (v1_ : Value).ownBlock) v0_ r1 ∧ Kd.R k68 68 w' w.heap.size (fun k_ => (w.heap.size ≤ k_)) v1_ r2 ∧ Below w.heap.size w w' := by
 have hu25 := Try.underlying25
 have hu46 := Try.underlying46
 have hu41 := Try.underlying41
 have HO0_0 := Aside0.mk (show Kd.V k58 58 w w.heap.size (fun k_ => (P0_0_ k_ ∨ w.heap.size ≤ k_)) (.slice A0_0 l0_0.length c0_0) l0_0 from Kd.V_mono hs0_0 (fun k_ hk => .inl hk))
 have HR0_1 := Aside0.mk hr0_1
 have HC0_1 := Aside0.mk hc0_1
 clear hr0_1 hc0_1
 have HB := Aside0.mk (Below.refl w.heap.size w)
 have H : (paymasterlaw14_ref.l0 k l0_1 (l0_1.length : Int) 0 l0_0 ([] : List (S68))) = some (r1, r2) := h
 clear h
 have H' := Aside0.mk H
 clear H
 go_enter Try.func16, Try.ntmps16
 go_wp2_with (first | ((with_reducible refine gate_dst (N := 1) rfl ?_); refine bx_ 1 #[.slice A0_0 l0_0.length c0_0, .slice A0_1 l0_1.length c0_1] 25 ?_; intro gb329 hg w2 hbox hb; have BK329 := Aside0.mk hbox; have GW329 := gs_ hg; have GE329 := gs_ hg; replace HO0_0 := Aside0.mk (Kd.V_below (Kd.V_elderB (by refine kv_ ?_; exact HO0_0.out) gb329 (Nat.le_of_eq hg.symm)) hb); replace HB := hs_ hb; clear hb hbox hg) | ((with_reducible refine gate_dst (N := 2) rfl ?_); refine bx_ 2 #[.slice none 0 0, .slice none 0 0] 46 ?_; intro gb330 hg w3 hbox hb; have BK330 := Aside0.mk hbox; have GW330 := gs_ hg; have GE330 := gs_ hg; have NB329_330 := nl_ hg BK329.out; have NB330_329 := ng_ hg BK329.out; replace HO0_0 := Aside0.mk (Kd.V_below (Kd.V_elderB (by refine kv_ ?_; exact HO0_0.out) gb330 (Nat.le_of_eq hg.symm)) hb); replace BK329 := bb_ BK329.out hb; replace HB := hs_ hb; clear hb hbox hg; have hnb4 := NB329_330.out; have hnc4 := NB330_329.out; obtain ⟨hcz5_0, hcz5_1, hfz5_0, hfz5_1⟩ := c2_ BK329.out) | ((with_reducible refine gate_dst (N := 3) rfl ?_); refine bx_ 3 #[.slice none 0 0, .slice none 0 0] 46 ?_; intro gb331 hg w6 hbox hb; have BK331 := Aside0.mk hbox; have GW331 := gs_ hg; have GE331 := gs_ hg; have NB329_331 := nl_ hg BK329.out; have NB331_329 := ng_ hg BK329.out; have NB330_331 := nl_ hg BK330.out; have NB331_330 := ng_ hg BK330.out; replace HO0_0 := Aside0.mk (Kd.V_below (Kd.V_elderB (by refine kv_ ?_; exact HO0_0.out) gb331 (Nat.le_of_eq hg.symm)) hb); replace BK329 := bb_ BK329.out hb; replace BK330 := bb_ BK330.out hb; replace HB := hs_ hb; clear hb hbox hg; have hnb7 := NB331_329.out; have hnc7 := NB329_331.out; have hnb8 := NB331_330.out; have hnc8 := NB330_331.out; obtain ⟨hcz9_0, hcz9_1, hfz9_0, hfz9_1⟩ := c2_ BK331.out; obtain ⟨hcz10_0, hcz10_1, hfz10_0, hfz10_1⟩ := c2_ BK329.out))
 go_loopg [12] k (fun kq v12 w' => ∃ (x12_1 : Int) (x332001_1 : List (S68)) (u332001 : Value), v12 = .int .i64 x12_1 ∧ Aside0 (paymasterlaw14_ref.l0 kq l0_1 (l0_1.length : Int) x12_1 l0_0 x332001_1 = some (r1, r2)) ∧ Aside0 (kq ≤ k) ∧ Aside0 (Kd.V k58 58 w' w.heap.size (fun k_ => (P0_0_ k_ ∨ w.heap.size ≤ k_) ∧ some k_ ≠ (u332001 : Value).ownBlock ∧ k_ ≠ gb329 ∧ k_ ≠ gb330 ∧ k_ ≠ gb331) (.slice A0_0 l0_0.length c0_0) l0_0) ∧ Aside0 (Kd.V k58 58 w' w.heap.size (fun k_ => (P0_0_ k_ ∨ w.heap.size ≤ k_) ∧ some k_ ≠ (u332001 : Value).ownBlock ∧ k_ ≠ gb329 ∧ k_ ≠ gb330 ∧ k_ ≠ gb331) (.slice A0_0 l0_0.length c0_0) l0_0) ∧ Aside0 (Kd.R k68 68 w' w.heap.size (fun k_ => (w.heap.size ≤ k_)) u332001 x332001_1) ∧ Aside0 (w'.heap[gb329]? = some (.cells #[(.slice A0_0 l0_0.length c0_0), (.slice A0_1 l0_1.length c0_1)] 25 (0, 0))) ∧ Aside0 (w'.heap[gb330]? = some (.cells #[(.slice none 0 0), (.slice none 0 0)] 46 (0, 0))) ∧ Aside0 (w'.heap[gb331]? = some (.cells #[(.slice A0_0 l0_0.length c0_0), u332001] 46 (0, 0))) ∧ Aside0 (Below w.heap.size w w'))
 case atStart => exact ⟨(0), (([] : List (S68))), (.slice none 0 0), sm_, H', ⟨Nat.le_refl _⟩, ⟨by refine kv_ ?_; exact Kd.V_mono (Kd.V_far (p := ⟨gb331, 1, none⟩) (Kd.V_far (p := ⟨gb331, 0, none⟩) (Kd.V_mono HO0_0.out (fun k_ hk => (⟨hk, hk.2⟩ : _ ∧ k_ ≠ gb331))) (fun _ hk => hk.2) (.slice A0_0 l0_0.length c0_0)) (fun _ hk => hk.2) (.slice none 0 0)) (fun _ hk => ⟨hk.1.1.1.1, ⟨(by simp [Value.ownBlock]), ⟨hk.1.1.1.2, ⟨hk.1.1.2, hk.1.2⟩⟩⟩⟩)⟩, ⟨by refine kv_ ?_; exact Kd.V_mono (Kd.V_far (p := ⟨gb331, 1, none⟩) (Kd.V_far (p := ⟨gb331, 0, none⟩) (Kd.V_mono HO0_0.out (fun k_ hk => (⟨hk, hk.2⟩ : _ ∧ k_ ≠ gb331))) (fun _ hk => hk.2) (.slice A0_0 l0_0.length c0_0)) (fun _ hk => hk.2) (.slice none 0 0)) (fun _ hk => ⟨hk.1.1.1.1, ⟨(by simp [Value.ownBlock]), ⟨hk.1.1.1.2, ⟨hk.1.1.2, hk.1.2⟩⟩⟩⟩)⟩, ⟨kn_⟩, ⟨bf_ BK329.out⟩, ⟨bf_ BK330.out⟩, ⟨bp_ BK331.out⟩, ⟨bl_⟩⟩
 case round =>
  clear H'
  try clear hcz10_0; try clear hcz10_1; try clear hcz5_0; try clear hcz5_1; try clear hcz9_0; try clear hcz9_1; try clear hfz10_0; try clear hfz10_1; try clear hfz5_0; try clear hfz5_1; try clear hfz9_0; try clear hfz9_1
  obtain ⟨x12_1, x332001_1, u332001, rfl, HA, HK1, HO_330000, HO_332000, HO_332001, BK329, BK330, BK331, HB⟩ := hrel
  cases gk with
  | zero => exact absurd HA.out (by simp [paymasterlaw14_ref.l0])
  | succ k1 =>
   have H := HA.out
   clear HA
   simp only [paymasterlaw14_ref.l0] at H
   by_cases c11 : x12_1 < (l0_1.length : Int)
   ·rw [if_pos c11] at H
    have c11b0 : decide (x12_1 < (l0_1.length : Int)) = true := decide_eq_true c11
    clear c11
    by_cases c12 : 0 ≤ x12_1
    ·rw [if_pos c12] at H
     have c12b0 : decide (0 ≤ x12_1) = true := decide_eq_true c12
     clear c12
     by_cases c13 : x12_1 < (l0_1.length : Int)
     ·rw [if_pos c13] at H
      have c13b0 : decide (x12_1 < (l0_1.length : Int)) = true := decide_eq_true c13
      clear c13
      by_cases c14 : x332001_1.length < 5864062014805
      ·rw [if_pos c14] at H
       have LMc14 := Aside0.mk c14
       clear c14
       obtain ⟨y334, hy334⟩ : ∃ y_ : List (S68), y_ = (x332001_1 ++ [(⟨(rd_T41 l0_1 x12_1).f0, (rd_T41 l0_1 x12_1).f1, (rd_T41 l0_1 x12_1).f2⟩ : S68)]) := ⟨_, rfl⟩
       replace H : (paymasterlaw14_ref.l0 k1 l0_1 (l0_1.length : Int) (wrap64 (x12_1 + 1)) l0_0 y334) = some (r1, r2) := by first | (rw [hy334]; with_reducible exact H) | (have H2_ := (Option.bind_some _ _).symm.trans H; rw [hy334]; with_reducible exact H2_) | (have H2_ := (Option.bind_some _ _).symm.trans H; with_reducible exact H2_) | with_reducible exact H | (rw [hy334]; exact H) | exact H
       have Ny334 := Aside0.mk hy334
       clear hy334
       have H' := Aside0.mk H
       clear H
       have p332 : 0 ≤ (x12_1 : Int) := od_
       have q332 : x12_1 < (l0_1.length : Int) := od_
       obtain ⟨ad332, e332, hx332_0, hx332_1, hx332_2⟩ := at_T41 HR0_1.out x12_1 p332 q332
       cases e332
       replace hx332_0 := (HB.out.cell (World.block_lt_of_cell? w _ hx332_0)).trans hx332_0
       replace hx332_1 := (HB.out.cell (World.block_lt_of_cell? w _ hx332_1)).trans hx332_1
       replace hx332_2 := (HB.out.cell (World.block_lt_of_cell? w _ hx332_2)).trans hx332_2
       replace p332 := eq_true p332
       replace q332 := eq_true q332
       go_wp2_with (first | ((with_reducible refine gate_dst (N := 5) rfl ?_); refine bx_ 5 #[.int .i64 0, .int .i64 0, .int .i64 0] 41 ?_; intro gb333 hg w15 hbox hb; have BK333 := Aside0.mk hbox; have GW333 := gs_ hg; have GE333 := gs_ hg; have NB329_333 := nl_ hg BK329.out; have NB333_329 := ng_ hg BK329.out; have NB330_333 := nl_ hg BK330.out; have NB333_330 := ng_ hg BK330.out; have NB331_333 := nl_ hg BK331.out; have NB333_331 := ng_ hg BK331.out; replace HO_330000 := Aside0.mk (Kd.V_below (Kd.V_elderB (by refine kv_ ?_; exact HO_330000.out) gb333 (Nat.le_of_eq hg.symm)) hb); replace HO_332000 := Aside0.mk (Kd.V_below (Kd.V_elderB (by refine kv_ ?_; exact HO_332000.out) gb333 (Nat.le_of_eq hg.symm)) hb); replace HO_332001 := rl_ HO_332001.out hb; replace BK329 := bb_ BK329.out hb; replace BK330 := bb_ BK330.out hb; replace BK331 := bb_ BK331.out hb; replace HB := hs_ hb; clear hb hbox hg; have hnb16 := NB333_329.out; have hnc16 := NB329_333.out; have hnb17 := NB333_330.out; have hnc17 := NB330_333.out; have hnb18 := NB333_331.out; have hnc18 := NB331_333.out; obtain ⟨hcz19_0, hcz19_1, hcz19_2, hfz19_0, hfz19_1, hfz19_2⟩ := c3_ BK333.out; have hnb20 := NB331_329.out; have hnc20 := NB329_331.out; have hnb21 := NB331_330.out; have hnc21 := NB330_331.out; obtain ⟨hcz22_0, hcz22_1, hfz22_0, hfz22_1⟩ := c2_ BK331.out) | ((with_reducible refine gate_builtin (b := .append) (xs := #[.tmp 17, .tmp 19]) rfl ?_); at_builtin; refine Kd.R_append k68 (w0 := w) w.heap.size rfl (.tmp 17) (.tmp 19) 44 68 (.agg #[(.int .i64 0), (.int .i64 0), (.int .i64 0)]) 24 rfl Try.underlying44 info68 rfl (by decide) (by omega) u332001 x332001_1 (⟨(rd_T41 l0_1 x12_1).f0, (rd_T41 l0_1 x12_1).f1, (rd_T41 l0_1 x12_1).f2⟩ : S68) [.int .i64 ((rd_T41 l0_1 x12_1).f0), .int .i64 ((rd_T41 l0_1 x12_1).f1), .int .i64 ((rd_T41 l0_1 x12_1).f2)] (fun k_ => (w.heap.size ≤ k_)) (fun _ => False) rfl (by first | (go_simp; done) | (go_simp; rfl)) ?aP (fun _ hk => hk.elim) ?aF ?aO ?aB ?aS ?aL ?_; (case aP => exact k68_mkM _ _ _ (⟨(rd_T41 l0_1 x12_1).f0, (rd_T41 l0_1 x12_1).f1, (rd_T41 l0_1 x12_1).f2⟩ : S68)); (case aB => exact bl_); (case aF => exact (fun k_ hk => (Nat.le_trans (below_size bl_) hk))); (case aO => exact (rs_ (ty_ HO_332001.out BK333.out))); (case aS => exact (below_size bl_)); (case aL => have := LMc14.out; omega); intro v335 w23 ho hb hg hat; rw [← Ny334.out] at ho; have HO336 := Aside0.mk (ho); replace HO_330000 := Aside0.mk (Kd.V_afterv (ok := (fun k_ => (P0_0_ k_ ∨ w.heap.size ≤ k_) ∧ k_ ≠ gb329 ∧ k_ ≠ gb330 ∧ k_ ≠ gb331 ∧ k_ ≠ gb333)) (by refine kv_ ?_; exact Kd.V_mono (Kd.V_far (p := ⟨gb333, 2, none⟩) (Kd.V_far (p := ⟨gb333, 1, none⟩) (Kd.V_far (p := ⟨gb333, 0, none⟩) (Kd.V_mono HO_330000.out (fun k_ hk => (⟨hk, hk.2⟩ : _ ∧ k_ ≠ gb333))) (fun _ hk => hk.2) (.int .i64 ((rd_T41 l0_1 x12_1).f0))) (fun _ hk => hk.2) (.int .i64 ((rd_T41 l0_1 x12_1).f1))) (fun _ hk => hk.2) (.int .i64 ((rd_T41 l0_1 x12_1).f2))) (fun _ hk => ⟨⟨hk.1.1.1, ⟨hk.1.1.2.2.1, ⟨hk.1.1.2.2.2.1, ⟨hk.1.1.2.2.2.2, hk.1.2⟩⟩⟩⟩, hk.1.1.2.1⟩)) hg hat); replace HO_332000 := Aside0.mk (Kd.V_afterv (ok := (fun k_ => (P0_0_ k_ ∨ w.heap.size ≤ k_) ∧ k_ ≠ gb329 ∧ k_ ≠ gb330 ∧ k_ ≠ gb331 ∧ k_ ≠ gb333)) (by refine kv_ ?_; exact Kd.V_mono (Kd.V_far (p := ⟨gb333, 2, none⟩) (Kd.V_far (p := ⟨gb333, 1, none⟩) (Kd.V_far (p := ⟨gb333, 0, none⟩) (Kd.V_mono HO_332000.out (fun k_ hk => (⟨hk, hk.2⟩ : _ ∧ k_ ≠ gb333))) (fun _ hk => hk.2) (.int .i64 ((rd_T41 l0_1 x12_1).f0))) (fun _ hk => hk.2) (.int .i64 ((rd_T41 l0_1 x12_1).f1))) (fun _ hk => hk.2) (.int .i64 ((rd_T41 l0_1 x12_1).f2))) (fun _ hk => ⟨⟨hk.1.1.1, ⟨hk.1.1.2.2.1, ⟨hk.1.1.2.2.2.1, ⟨hk.1.1.2.2.2.2, hk.1.2⟩⟩⟩⟩, hk.1.1.2.1⟩)) hg hat); replace BK329 := bg_ BK329.out hg (Kd.R_ne HO_332001.out BK329.out (by decide)); replace BK330 := bg_ BK330.out hg (Kd.R_ne HO_332001.out BK330.out (by decide)); replace BK331 := bg_ BK331.out hg (Kd.R_ne HO_332001.out BK331.out (by decide)); replace BK333 := Aside0.mk (blk_grown (g := gb333) (o := .cells #[.int .i64 ((rd_T41 l0_1 x12_1).f0), .int .i64 ((rd_T41 l0_1 x12_1).f1), .int .i64 ((rd_T41 l0_1 x12_1).f2)] 41 (0, 0)) (bp_ BK333.out) hg (Kd.R_ne HO_332001.out BK333.out (by decide))); replace HB := Aside0.mk (hb); clear HO_332001; clear ho hb hg hat; obtain ⟨Ao24, co24, eo24⟩ := Kd.R_slice HO336.out; subst eo24; obtain ⟨hcz25_0, hcz25_1, hfz25_0, hfz25_1⟩ := c2_ BK331.out))
       go_roundg k1
       case measure => have := HK1.out; omega
       case rel => exact ⟨(wrap64 (x12_1 + 1)), (y334), (.slice Ao24 y334.length co24), sm_, H', ⟨by have := HK1.out; omega⟩, ⟨by refine kv_ ?_; exact Kd.V_mono (Kd.V_far (p := ⟨gb331, 1, none⟩) (Kd.V_mono HO_330000.out (fun k_ hk => (⟨hk, hk.1.2.2.2.1⟩ : _ ∧ k_ ≠ gb331))) (fun _ hk => hk.2) (.slice Ao24 y334.length co24)) (fun _ hk => ⟨hk.1.1.1, ⟨hk.1.2, ⟨hk.1.1.2.1, ⟨hk.1.1.2.2.1, hk.1.1.2.2.2.1⟩⟩⟩⟩)⟩, ⟨by refine kv_ ?_; exact Kd.V_mono (Kd.V_far (p := ⟨gb331, 1, none⟩) (Kd.V_mono HO_332000.out (fun k_ hk => (⟨hk, hk.1.2.2.2.1⟩ : _ ∧ k_ ≠ gb331))) (fun _ hk => hk.2) (.slice Ao24 y334.length co24)) (fun _ hk => ⟨hk.1.1.1, ⟨hk.1.2, ⟨hk.1.1.2.1, ⟨hk.1.1.2.2.1, hk.1.1.2.2.2.1⟩⟩⟩⟩)⟩, ⟨rs_ (ty_ HO336.out BK331.out)⟩, ⟨bf_ BK329.out⟩, ⟨bf_ BK330.out⟩, ⟨bp_ BK331.out⟩, ⟨bl_⟩⟩
      ·rw [if_neg c14] at H
       exact absurd H (by simp)
     ·rw [if_neg c13] at H
      exact absurd H (by simp)
    ·rw [if_neg c12] at H
     exact absurd H (by simp)
   ·rw [if_neg c11] at H
    have c11b0 : decide (x12_1 < (l0_1.length : Int)) = false := decide_eq_false c11
    clear c11
    simp only [Option.some.injEq, Prod.mk.injEq] at H
    obtain ⟨rfl, rfl⟩ := H
    have hnb26 := NB331_329.out
    have hnc26 := NB329_331.out
    have hnb27 := NB331_330.out
    have hnc27 := NB330_331.out
    obtain ⟨hcz28_0, hcz28_1, hfz28_0, hfz28_1⟩ := c2_ BK331.out
    have hnb29 := NB330_329.out
    have hnc29 := NB329_330.out
    obtain ⟨hcz30_0, hcz30_1, hfz30_0, hfz30_1⟩ := c2_ BK330.out
    obtain ⟨Ao31, co31, eo31⟩ := Kd.R_slice HO_332001.out
    subst eo31
    go_wp2
    refine bodyPost_ret (results_cell_row rfl _ _ gb330 46 #[.slice A0_0 l0_0.length c0_0, .slice Ao31 x332001_1.length co31] (0, 0) _ rfl (bp_ BK330.out) Try.underlying46 rfl (by kernel_rfl)) rfl ?_
    exact ⟨_, _, se_, by refine kv_ ?_; exact Kd.V_mono (Kd.V_far (p := ⟨gb330, 1, none⟩) (Kd.V_far (p := ⟨gb330, 0, none⟩) (Kd.V_mono HO_332000.out (fun k_ hk => (⟨hk, hk.2.2.2.1⟩ : _ ∧ k_ ≠ gb330))) (fun _ hk => hk.2) (.slice A0_0 l0_0.length c0_0)) (fun _ hk => hk.2) (.slice Ao31 x332001_1.length co31)) (fun _ hk => ⟨hk.1.1, hk.1.2.1⟩), by refine kr_ ?_; exact Kd.R_mono (rf2_ (Kd.R_types HO_332001.out BK330.out (by decide))) (fun _ hk => hk.1), bl_⟩

/-! ### paymasterref14_Far: function 17 -/
def paymasterref14_Far.f (a0 : Int) : Option (Bool) := if a0 > 1125899906842624 then (some true) else (some (decide (a0 < (-1125899906842624))))
set_option maxHeartbeats 8000000 in
set_option maxRecDepth 100000 in
theorem paymasterref14_Far.calls (a0 : Int) (r : Bool) (w : World) (h : paymasterref14_Far.f a0 = some r) :
    Calls Try.prog 17 #[.int .i64 a0] w fun e w' => e = .returned (.bool r) ∧ Drawn0 w w' := by
 have H : (if a0 > 1125899906842624 then (some true) else (some (decide (a0 < (-1125899906842624))))) = some r := h
 clear h
 by_cases c2 : a0 > 1125899906842624
 ·rw [if_pos c2] at H
  have c2b0 : decide (1125899906842624 < a0) = true := decide_eq_true c2
  clear c2
  obtain rfl := Option.some.inj H
  go_enter Try.func17, Try.ntmps17
  go_wp2
  go_ret
  exact ⟨sm_, dr_⟩
 ·rw [if_neg c2] at H
  have c2b0 : decide (1125899906842624 < a0) = false := decide_eq_false c2
  clear c2
  obtain rfl := Option.some.inj H
  go_enter Try.func17, Try.ntmps17
  go_wp2
  go_ret
  exact ⟨sm_, dr_⟩

end Go.Proofs.Ytocaneaofdbpoaa.PA
