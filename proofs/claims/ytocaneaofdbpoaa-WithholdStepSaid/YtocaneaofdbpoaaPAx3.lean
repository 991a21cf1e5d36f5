/- Contracts of the functions of the given program: written by wip/pmprint.py, a program of this session, which runs the print of the kit over altered functions. -/
import Derived.Test.YtocaneaofdbpoaaPAx0
import Derived.Test.YtocaneaofdbpoaaPAx1
import Derived.Test.YtocaneaofdbpoaaPAx2
namespace Go.Proofs.Ytocaneaofdbpoaa.PA
open Go.RowKit Go.Proofs.YtocaneaofdbpoaaW.PrintWords Go.Proofs.YtocaneaofdbpoaaW.PrintLast Go.Proofs.YtocaneaofdbpoaaW.PrintMore
attribute [local go_sem] max2_int min2_int max_two min_two max_three min_three max_four min_four   -- for this text's walks alone
set_option linter.unusedVariables false
set_option linter.unusedSimpArgs false

/-! ### wide_MulDiv: function 35 -/
mutual
def wide_MulDiv.j0 : Nat → Int → Int → Int → Int → Bool → Option (Int × Int)
  | 0, _, _, _, _, _ => none
  | k + 1, x0, x1, x2, x3, x16 => if x16 = true then (some (0, 1)) else ((money_Right.f x0).bind fun t125 => (if t125 = true then ((money_Right.f x1).bind fun t126 => (if t126 = true then ((money_Right.f x2).bind fun t127 => (wide_MulDiv.j1 k x0 x1 x2 x3 (!t127))) else (wide_MulDiv.j1 k x0 x1 x2 x3 true))) else (wide_MulDiv.j1 k x0 x1 x2 x3 true)))
def wide_MulDiv.j1 : Nat → Int → Int → Int → Int → Bool → Option (Int × Int)
  | 0, _, _, _, _, _ => none
  | k + 1, x0, x1, x2, x3, x23 => if x23 = true then (some (0, 3)) else (if x2 = 0 then (some (0, 4)) else ((wide_size.f x0).bind fun t128 => ((wide_size.f x1).bind fun t129 => ((bits_Mul64.f t128 t129).bind fun bt130 => ((wide_size.f x2).bind fun t132 => (if bt130.1 ≥ t132 then (some (0, 3)) else ((bits_Div64.f k bt130.1 bt130.2 t132).bind fun bt133 => (if bt133.1 ≤ 9223372036854775807 then ((wide_up.f x3 bt133.1 bt133.2 t132).bind fun t135 => (wide_MulDiv.j2 k x0 x1 x2 bt133.1 t135)) else (wide_MulDiv.j2 k x0 x1 x2 bt133.1 false)))))))))
def wide_MulDiv.j2 : Nat → Int → Int → Int → Int → Bool → Option (Int × Int)
  | 0, _, _, _, _, _ => none
  | k + 1, x0, x1, x2, x13, x68 => if x68 = true then (wide_MulDiv.j3 k x0 x1 x2 (IntKind.u64.wrap (x13 + 1))) else (wide_MulDiv.j3 k x0 x1 x2 x13)
def wide_MulDiv.j3 : Nat → Int → Int → Int → Int → Option (Int × Int)
  | 0, _, _, _, _ => none
  | k + 1, x0, x1, x2, x13 => if x13 > 9223372036854775807 then (some (0, 3)) else (if (((decide (x0 < 0)) != (decide (x1 < 0))) != (decide (x2 < 0))) = true then (some (wrap64 (-(wrap64 (x13))), 0)) else (some (wrap64 (x13), 0)))
end
def wide_MulDiv.f (k : Nat) (a0 : Int) (a1 : Int) (a2 : Int) (a3 : Int) : Option (Int × Int) := if a3 < 0 then (wide_MulDiv.j0 k a0 a1 a2 a3 true) else (wide_MulDiv.j0 k a0 a1 a2 a3 (decide (a3 > 3)))
set_option maxHeartbeats 8000000 in
set_option maxRecDepth 100000 in
theorem wide_MulDiv.calls (k : Nat) (a0 : Int) (a1 : Int) (a2 : Int) (a3 : Int) (r1 : Int) (r2 : Int) (w : World) (h : wide_MulDiv.f k a0 a1 a2 a3 = some (r1, r2)) :
    Calls Try.prog 35 #[.int .i64 a0, .int .i64 a1, .int .i64 a2, .int .i64 a3] w fun e w' => e = .returned (.tuple #[.int .i64 r1, .int .i64 r2]) ∧ Drawn0 w w' := by
 have H : (if a3 < 0 then (wide_MulDiv.j0 k a0 a1 a2 a3 true) else (wide_MulDiv.j0 k a0 a1 a2 a3 (decide (a3 > 3)))) = some (r1, r2) := h
 clear h
 have HC5 := Aside0.mk H
 clear H
 go_enter Try.func35, Try.ntmps35
 go_upto_region 1 with (fail)
 go_cut [16] (fun v16 wc => ∃ (kq : Nat) (x16_4 : Bool), v16 = .bool x16_4 ∧ Aside0 (wide_MulDiv.j0 kq a0 a1 a2 a3 x16_4 = some (r1, r2)) ∧ Aside0 (kq ≤ k) ∧ Drawn0 w wc)
 case first =>
  have H := HC5.out
  clear HC5
  by_cases c6 : a3 < 0
  ·rw [if_pos c6] at H
   have c6b0 : decide (a3 < 0) = true := decide_eq_true c6
   clear c6
   (first | rw [c6b0] | (simp only [i64_w, i32_w]; rw [c6b0]) | skip)
   have H' := Aside0.mk H
   clear H
   go_wp2
   go_meet
   case rel => exact ⟨_, (true), sm_, H', ⟨by first | omega | exact Nat.le_refl _⟩, dr_⟩
  ·rw [if_neg c6] at H
   have c6b0 : decide (a3 < 0) = false := decide_eq_false c6
   clear c6
   (first | rw [c6b0] | (simp only [i64_w, i32_w]; rw [c6b0]) | skip)
   have H' := Aside0.mk H
   clear H
   go_wp2
   go_meet
   case rel => exact ⟨_, (decide (a3 > 3)), sm_, H', ⟨by first | omega | exact Nat.le_refl _⟩, dr_⟩
 case rest =>
  clear HC5
  obtain ⟨kq, x16_4, rfl, HA, HJ4, ⟨mc4, rfl⟩⟩ := hcut
  cases kq with
  | zero => exact absurd HA.out (by simp [wide_MulDiv.j0])
  | succ kj4 =>
   have H := HA.out
   clear HA
   simp only [wide_MulDiv.j0] at H
   by_cases c7 : x16_4 = true
   ·subst c7
    rw [if_pos rfl] at H
    simp only [Option.some.injEq, Prod.mk.injEq] at H
    obtain ⟨rfl, rfl⟩ := H
    go_wp2
    go_ret2
    exact ⟨sm_, dr_⟩
   ·replace c7 := Bool.eq_false_iff.mpr c7
    subst c7
    rw [if_neg (show ¬ (false = true) by decide)] at H
    have HC8 := Aside0.mk H
    clear H
    go_upto_region 3 with (fail)
    go_cut [23] (fun v23 wc => ∃ (kq : Nat) (x23_7 : Bool), v23 = .bool x23_7 ∧ Aside0 (wide_MulDiv.j1 kq a0 a1 a2 a3 x23_7 = some (r1, r2)) ∧ Aside0 (kq ≤ kj4) ∧ Drawn0 w wc)
    case first =>
     have H := HC8.out
     clear HC8
     replace H := Option.bind_eq_some_iff.mp H
     obtain ⟨t125, A90, H⟩ := H
     (try dsimp only at H)
     have A9 := Aside0.mk A90
     clear A90
     by_cases c10 : t125 = true
     ·subst c10
      rw [if_pos rfl] at H
      replace H := Option.bind_eq_some_iff.mp H
      obtain ⟨t126, A110, H⟩ := H
      (try dsimp only at H)
      have A11 := Aside0.mk A110
      clear A110
      by_cases c12 : t126 = true
      ·subst c12
       rw [if_pos rfl] at H
       replace H := Option.bind_eq_some_iff.mp H
       obtain ⟨t127, A130, H⟩ := H
       (try dsimp only at H)
       have A13 := Aside0.mk A130
       clear A130
       have H' := Aside0.mk H
       clear H
       go_wp2_with (first | ((with_reducible refine gate_callee (f := 40) rfl ?_); refine goesL_ (some 25) rfl rfl Try.func40 (by kernel_rfl) rfl #[.int .i64 a0] rfl ga_ ?_; (with_reducible refine (money_Right.calls a0 true _ A9.out).mono ?_); rintro e w' ⟨rfl, ⟨nd, rfl⟩⟩; refine ⟨_, rfl, ?_⟩) | (go_at_call 40; (with_reducible refine (money_Right.calls a1 true _ A11.out).mono ?_); rintro e w' ⟨rfl, ⟨nd, rfl⟩⟩) | (go_at_call 40; (with_reducible refine (money_Right.calls a2 t127 _ A13.out).mono ?_); rintro e w' ⟨rfl, ⟨nd, rfl⟩⟩))
       go_meet
       case rel => exact ⟨_, (!t127), sm_, H', ⟨by have := HJ4.out; first | omega | exact Nat.le_refl _⟩, dr_⟩
      ·replace c12 := Bool.eq_false_iff.mpr c12
       subst c12
       rw [if_neg (show ¬ (false = true) by decide)] at H
       have H' := Aside0.mk H
       clear H
       go_wp2_with (first | ((with_reducible refine gate_callee (f := 40) rfl ?_); refine goesL_ (some 25) rfl rfl Try.func40 (by kernel_rfl) rfl #[.int .i64 a0] rfl ga_ ?_; (with_reducible refine (money_Right.calls a0 true _ A9.out).mono ?_); rintro e w' ⟨rfl, ⟨nd, rfl⟩⟩; refine ⟨_, rfl, ?_⟩) | (go_at_call 40; (with_reducible refine (money_Right.calls a1 false _ A11.out).mono ?_); rintro e w' ⟨rfl, ⟨nd, rfl⟩⟩))
       go_meet
       case rel => exact ⟨_, (true), sm_, H', ⟨by have := HJ4.out; first | omega | exact Nat.le_refl _⟩, dr_⟩
     ·replace c10 := Bool.eq_false_iff.mpr c10
      subst c10
      rw [if_neg (show ¬ (false = true) by decide)] at H
      have H' := Aside0.mk H
      clear H
      go_wp2_with (first | ((with_reducible refine gate_callee (f := 40) rfl ?_); refine goesL_ (some 25) rfl rfl Try.func40 (by kernel_rfl) rfl #[.int .i64 a0] rfl ga_ ?_; (with_reducible refine (money_Right.calls a0 false _ A9.out).mono ?_); rintro e w' ⟨rfl, ⟨nd, rfl⟩⟩; refine ⟨_, rfl, ?_⟩))
      go_meet
      case rel => exact ⟨_, (true), sm_, H', ⟨by have := HJ4.out; first | omega | exact Nat.le_refl _⟩, dr_⟩
    case rest =>
     clear HC8
     try clear c7
     obtain ⟨kq, x23_7, rfl, HA, HJ7, ⟨mc7, rfl⟩⟩ := hcut
     cases kq with
     | zero => exact absurd HA.out (by simp [wide_MulDiv.j1])
     | succ kj7 =>
      have H := HA.out
      clear HA
      simp only [wide_MulDiv.j1] at H
      by_cases c14 : x23_7 = true
      ·subst c14
       rw [if_pos rfl] at H
       simp only [Option.some.injEq, Prod.mk.injEq] at H
       obtain ⟨rfl, rfl⟩ := H
       go_wp2
       go_ret2
       exact ⟨sm_, dr_⟩
      ·replace c14 := Bool.eq_false_iff.mpr c14
       subst c14
       rw [if_neg (show ¬ (false = true) by decide)] at H
       by_cases c15 : a2 = 0
       ·rw [if_pos c15] at H
        have c15b0 : (a2 == 0) = true := beq_iff_eq.mpr c15
        have c15b1 : (a2 != 0) = false := bne_eq_false_iff_eq.mpr c15
        clear c15
        simp only [Option.some.injEq, Prod.mk.injEq] at H
        obtain ⟨rfl, rfl⟩ := H
        go_wp2
        go_ret2
        exact ⟨sm_, dr_⟩
       ·rw [if_neg c15] at H
        have c15b0 : (a2 == 0) = false := beq_eq_false_iff_ne.mpr c15
        have c15b1 : (a2 != 0) = true := bne_iff_ne.mpr c15
        replace H := Option.bind_eq_some_iff.mp H
        obtain ⟨t128, A160, H⟩ := H
        (try dsimp only at H)
        have A16 := Aside0.mk A160
        clear A160
        replace H := Option.bind_eq_some_iff.mp H
        obtain ⟨t129, A170, H⟩ := H
        (try dsimp only at H)
        have A17 := Aside0.mk A170
        clear A170
        replace H := Option.bind_eq_some_iff.mp H
        obtain ⟨⟨t130, t131⟩, A180, H⟩ := H
        (try dsimp only at H)
        have A18 := Aside0.mk A180
        clear A180
        replace H := Option.bind_eq_some_iff.mp H
        obtain ⟨t132, A190, H⟩ := H
        (try dsimp only at H)
        have A19 := Aside0.mk A190
        clear A190
        by_cases c20 : t130 ≥ t132
        ·rw [if_pos c20] at H
         have c20b0 : decide (t132 ≤ t130) = true := decide_eq_true c20
         clear c20
         simp only [Option.some.injEq, Prod.mk.injEq] at H
         obtain ⟨rfl, rfl⟩ := H
         go_wp2_with (first | ((with_reducible refine gate_callee (f := 42) rfl ?_); refine goesL_ (some 42) rfl rfl Try.func42 (by kernel_rfl) rfl #[.int .i64 a0] rfl ga_ ?_; (with_reducible refine (wide_size.calls a0 t128 _ A16.out).mono ?_); rintro e w' ⟨rfl, ⟨nd, rfl⟩⟩; refine ⟨_, rfl, ?_⟩) | ((with_reducible refine gate_callee (f := 42) rfl ?_); refine goesL_ (some 44) rfl rfl Try.func42 (by kernel_rfl) rfl #[.int .i64 a1] rfl ga_ ?_; (with_reducible refine (wide_size.calls a1 t129 _ A17.out).mono ?_); rintro e w' ⟨rfl, ⟨nd, rfl⟩⟩; refine ⟨_, rfl, ?_⟩) | ((with_reducible refine gate_callee (f := 41) rfl ?_); refine goesL_ (some 45) rfl rfl Try.func41 (by kernel_rfl) rfl #[.int .u64 t128, .int .u64 t129] rfl ga_ ?_; (with_reducible refine (bits_Mul64.calls t128 t129 t130 t131 _ A18.out).mono ?_); rintro e w' ⟨rfl, ⟨nd, rfl⟩⟩; refine ⟨_, rfl, ?_⟩) | ((with_reducible refine gate_callee (f := 42) rfl ?_); refine goesL_ (some 49) rfl rfl Try.func42 (by kernel_rfl) rfl #[.int .i64 a2] rfl ga_ ?_; (with_reducible refine (wide_size.calls a2 t132 _ A19.out).mono ?_); rintro e w' ⟨rfl, ⟨nd, rfl⟩⟩; refine ⟨_, rfl, ?_⟩))
         go_ret2
         exact ⟨sm_, dr_⟩
        ·rw [if_neg c20] at H
         have c20b0 : decide (t132 ≤ t130) = false := decide_eq_false c20
         clear c20
         replace H := Option.bind_eq_some_iff.mp H
         obtain ⟨⟨t133, t134⟩, A210, H⟩ := H
         (try dsimp only at H)
         have A21 := Aside0.mk A210
         clear A210
         have HC22 := Aside0.mk H
         clear H
         go_upto_region 12 with (first | ((with_reducible refine gate_callee (f := 42) rfl ?_); refine goesL_ (some 42) rfl rfl Try.func42 (by kernel_rfl) rfl #[.int .i64 a0] rfl ga_ ?_; (with_reducible refine (wide_size.calls a0 t128 _ A16.out).mono ?_); rintro e w' ⟨rfl, ⟨nd, rfl⟩⟩; refine ⟨_, rfl, ?_⟩) | ((with_reducible refine gate_callee (f := 42) rfl ?_); refine goesL_ (some 44) rfl rfl Try.func42 (by kernel_rfl) rfl #[.int .i64 a1] rfl ga_ ?_; (with_reducible refine (wide_size.calls a1 t129 _ A17.out).mono ?_); rintro e w' ⟨rfl, ⟨nd, rfl⟩⟩; refine ⟨_, rfl, ?_⟩) | ((with_reducible refine gate_callee (f := 41) rfl ?_); refine goesL_ (some 45) rfl rfl Try.func41 (by kernel_rfl) rfl #[.int .u64 t128, .int .u64 t129] rfl ga_ ?_; (with_reducible refine (bits_Mul64.calls t128 t129 t130 t131 _ A18.out).mono ?_); rintro e w' ⟨rfl, ⟨nd, rfl⟩⟩; refine ⟨_, rfl, ?_⟩) | ((with_reducible refine gate_callee (f := 42) rfl ?_); refine goesL_ (some 49) rfl rfl Try.func42 (by kernel_rfl) rfl #[.int .i64 a2] rfl ga_ ?_; (with_reducible refine (wide_size.calls a2 t132 _ A19.out).mono ?_); rintro e w' ⟨rfl, ⟨nd, rfl⟩⟩; refine ⟨_, rfl, ?_⟩) | ((with_reducible refine gate_callee (f := 43) rfl ?_); refine goesL_ (some 57) rfl rfl Try.func43 (by kernel_rfl) rfl #[.int .u64 t130, .int .u64 t131, .int .u64 t132] rfl ga_ ?_; (with_reducible refine (bits_Div64.calls kj7 t130 t131 t132 t133 t134 _ A21.out).mono ?_); rintro e w' ⟨rfl, ⟨nd, rfl⟩⟩; refine ⟨_, rfl, ?_⟩))
         (try simp only [Act.put, List.setIfInBounds_toArray, List.set_cons_zero, List.set_cons_succ])
         go_cut [68] (fun v68 wc => ∃ (kq : Nat) (x68_21 : Bool), v68 = .bool x68_21 ∧ Aside0 (wide_MulDiv.j2 kq a0 a1 a2 t133 x68_21 = some (r1, r2)) ∧ Aside0 (kq ≤ kj7) ∧ Drawn0 w wc)
         case first =>
          have H := HC22.out
          clear HC22
          by_cases c23 : t133 ≤ 9223372036854775807
          ·rw [if_pos c23] at H
           have c23b0 : decide (t133 ≤ 9223372036854775807) = true := decide_eq_true c23
           clear c23
           (first | rw [c23b0] | (simp only [i64_w, i32_w]; rw [c23b0]) | skip)
           replace H := Option.bind_eq_some_iff.mp H
           obtain ⟨t135, A240, H⟩ := H
           (try dsimp only at H)
           have A24 := Aside0.mk A240
           clear A240
           have H' := Aside0.mk H
           clear H
           go_wp2_with (first | (go_at_call 44; (with_reducible refine (wide_up.calls a3 t133 t134 t132 t135 _ A24.out).mono ?_); rintro e w' ⟨rfl, ⟨nd, rfl⟩⟩))
           go_meet
           case rel => exact ⟨_, (t135), sm_, H', ⟨by have := HJ4.out; have := HJ7.out; first | omega | exact Nat.le_refl _⟩, dr_⟩
          ·rw [if_neg c23] at H
           have c23b0 : decide (t133 ≤ 9223372036854775807) = false := decide_eq_false c23
           clear c23
           (first | rw [c23b0] | (simp only [i64_w, i32_w]; rw [c23b0]) | skip)
           have H' := Aside0.mk H
           clear H
           go_wp2
           go_meet
           case rel => exact ⟨_, (false), sm_, H', ⟨by have := HJ4.out; have := HJ7.out; first | omega | exact Nat.le_refl _⟩, dr_⟩
         case rest =>
          clear HC22
          try clear c7; try clear c14; try clear c15; try clear c15b0; try clear c15b1; try clear c20; try clear c20b0
          obtain ⟨kq, x68_21, rfl, HA, HJ21, ⟨mc21, rfl⟩⟩ := hcut
          cases kq with
          | zero => exact absurd HA.out (by simp [wide_MulDiv.j2])
          | succ kj21 =>
           have H := HA.out
           clear HA
           simp only [wide_MulDiv.j2] at H
           have HC25 := Aside0.mk H
           clear H
           go_upto_if 68 with (fail)
           go_cut [13] (fun v13 wc => ∃ (kq : Nat) (x13_24 : Int), v13 = .int .u64 x13_24 ∧ Aside0 (wide_MulDiv.j3 kq a0 a1 a2 x13_24 = some (r1, r2)) ∧ Aside0 (kq ≤ kj21) ∧ Drawn0 w wc)
           case first =>
            have H := HC25.out
            clear HC25
            by_cases c26 : x68_21 = true
            ·subst c26
             rw [if_pos rfl] at H
             have H' := Aside0.mk H
             clear H
             go_wp2
             go_meet
             case rel => exact ⟨_, (IntKind.u64.wrap (t133 + 1)), sm_, H', ⟨by have := HJ4.out; have := HJ7.out; have := HJ21.out; first | omega | exact Nat.le_refl _⟩, dr_⟩
            ·replace c26 := Bool.eq_false_iff.mpr c26
             subst c26
             rw [if_neg (show ¬ (false = true) by decide)] at H
             have H' := Aside0.mk H
             clear H
             go_wp2
             go_meet
             case rel => exact ⟨_, (t133), sm_, H', ⟨by have := HJ4.out; have := HJ7.out; have := HJ21.out; first | omega | exact Nat.le_refl _⟩, dr_⟩
           case rest =>
            clear HC25
            try clear c7; try clear c14; try clear c15; try clear c15b0; try clear c15b1; try clear c20; try clear c20b0
            obtain ⟨kq, x13_24, rfl, HA, HJ24, ⟨mc24, rfl⟩⟩ := hcut
            cases kq with
            | zero => exact absurd HA.out (by simp [wide_MulDiv.j3])
            | succ kj24 =>
             have H := HA.out
             clear HA
             simp only [wide_MulDiv.j3] at H
             by_cases c27 : x13_24 > 9223372036854775807
             ·rw [if_pos c27] at H
              have c27b0 : decide (9223372036854775807 < x13_24) = true := decide_eq_true c27
              clear c27
              simp only [Option.some.injEq, Prod.mk.injEq] at H
              obtain ⟨rfl, rfl⟩ := H
              go_wp2
              go_ret2
              exact ⟨sm_, dr_⟩
             ·rw [if_neg c27] at H
              have c27b0 : decide (9223372036854775807 < x13_24) = false := decide_eq_false c27
              clear c27
              by_cases c28 : (((decide (a0 < 0)) != (decide (a1 < 0))) != (decide (a2 < 0))) = true
              ·rw [if_pos c28] at H
               have c28b0 : (((decide (a0 < 0)) != (decide (a1 < 0))) != (decide (a2 < 0))) = true := c28
               have c28b9 : (!(!decide (a0 < 0) == decide (a1 < 0)) == decide (a2 < 0)) = true := c28b0
               (try (have c28b1 : decide (((decide (a0 < 0)) != (decide (a1 < 0))) = (decide (a2 < 0))) = false := by simpa using c28))
               (try (have c28b2 : (((decide (a0 < 0)) != (decide (a1 < 0))) == (decide (a2 < 0))) = false := by simpa using c28))
               (try (have c28b3 : ¬ (((decide (a0 < 0)) != (decide (a1 < 0))) = (decide (a2 < 0))) := by simpa using c28))
               clear c28
               simp only [Option.some.injEq, Prod.mk.injEq] at H
               obtain ⟨rfl, rfl⟩ := H
               go_wp2
               go_ret2
               exact ⟨sm_, dr_⟩
              ·rw [if_neg c28] at H
               have c28b0 : (((decide (a0 < 0)) != (decide (a1 < 0))) != (decide (a2 < 0))) = false := by simpa using c28
               have c28b9 : (!(!decide (a0 < 0) == decide (a1 < 0)) == decide (a2 < 0)) = false := c28b0
               (try (have c28b1 : decide (((decide (a0 < 0)) != (decide (a1 < 0))) = (decide (a2 < 0))) = true := by simpa using c28))
               (try (have c28b2 : (((decide (a0 < 0)) != (decide (a1 < 0))) == (decide (a2 < 0))) = true := by simpa using c28))
               clear c28
               simp only [Option.some.injEq, Prod.mk.injEq] at H
               obtain ⟨rfl, rfl⟩ := H
               go_wp2
               go_ret2
               exact ⟨sm_, dr_⟩

/-! ### rate_Of: function 27 -/
def rate_Of.f (k : Nat) (a0 : Int) (a1 : Int) (a2 : Int) : Option (Int × Int) := (rate_Right.f a1).bind fun t136 => (if t136 = true then ((wide_MulDiv.f k a0 a1 10000 a2).bind fun bt137 => (some (bt137.1, bt137.2))) else (some (0, 1)))
set_option maxHeartbeats 8000000 in
set_option maxRecDepth 100000 in
theorem rate_Of.calls (k : Nat) (a0 : Int) (a1 : Int) (a2 : Int) (r1 : Int) (r2 : Int) (w : World) (h : rate_Of.f k a0 a1 a2 = some (r1, r2)) :
    Calls Try.prog 27 #[.int .i64 a0, .int .i64 a1, .int .i64 a2] w fun e w' => e = .returned (.tuple #[.int .i64 r1, .int .i64 r2]) ∧ Drawn0 w w' := by
 have H : ((rate_Right.f a1).bind fun t136 => (if t136 = true then ((wide_MulDiv.f k a0 a1 10000 a2).bind fun bt137 => (some (bt137.1, bt137.2))) else (some (0, 1)))) = some (r1, r2) := h
 clear h
 replace H := Option.bind_eq_some_iff.mp H
 obtain ⟨t136, A40, H⟩ := H
 (try dsimp only at H)
 have A4 := Aside0.mk A40
 clear A40
 by_cases c5 : t136 = true
 ·subst c5
  rw [if_pos rfl] at H
  replace H := Option.bind_eq_some_iff.mp H
  obtain ⟨⟨t137, t138⟩, A60, H⟩ := H
  (try dsimp only at H)
  have A6 := Aside0.mk A60
  clear A60
  simp only [Option.some.injEq, Prod.mk.injEq] at H
  obtain ⟨rfl, rfl⟩ := H
  go_enter Try.func27, Try.ntmps27
  go_wp2_with (first | ((with_reducible refine gate_callee (f := 25) rfl ?_); refine goesL_ (some 9) rfl rfl Try.func25 (by kernel_rfl) rfl #[.int .i64 a1] rfl ga_ ?_; (with_reducible refine (rate_Right.calls a1 true _ A4.out).mono ?_); rintro e w' ⟨rfl, ⟨nd, rfl⟩⟩; refine ⟨_, rfl, ?_⟩) | ((with_reducible refine gate_callee (f := 35) rfl ?_); refine goesL_ (some 14) rfl rfl Try.func35 (by kernel_rfl) rfl #[.int .i64 a0, .int .i64 a1, .int .i64 10000, .int .i64 a2] rfl ga_ ?_; (with_reducible refine (wide_MulDiv.calls k a0 a1 10000 a2 t137 t138 _ A6.out).mono ?_); rintro e w' ⟨rfl, ⟨nd, rfl⟩⟩; refine ⟨_, rfl, ?_⟩))
  go_ret2
  exact ⟨sm_, dr_⟩
 ·replace c5 := Bool.eq_false_iff.mpr c5
  subst c5
  rw [if_neg (show ¬ (false = true) by decide)] at H
  simp only [Option.some.injEq, Prod.mk.injEq] at H
  obtain ⟨rfl, rfl⟩ := H
  go_enter Try.func27, Try.ntmps27
  go_wp2_with (first | ((with_reducible refine gate_callee (f := 25) rfl ?_); refine goesL_ (some 9) rfl rfl Try.func25 (by kernel_rfl) rfl #[.int .i64 a1] rfl ga_ ?_; (with_reducible refine (rate_Right.calls a1 false _ A4.out).mono ?_); rintro e w' ⟨rfl, ⟨nd, rfl⟩⟩; refine ⟨_, rfl, ?_⟩))
  go_ret2
  exact ⟨sm_, dr_⟩

/-! ### brackets_check: function 39 -/
def brackets_check.f (k : Nat) (l0 : List (S58)) (a1 : Int) : Option (Int) := (brackets_Right.f k l0).bind fun t139 => (if t139 = true then ((money_Right.f a1).bind fun t140 => (if t140 = true then (some 0) else (some 3))) else (some 1))
set_option maxHeartbeats 8000000 in
set_option maxRecDepth 100000 in
theorem brackets_check.calls (k : Nat) (A0 : Option Addr) (c0 : Nat) (l0 : List (S58)) (a1 : Int) (r : Int) (w : World) (hr0 : Kd.C k58 w A0 l0.length l0) (hc0 : l0.length ≤ c0) (h : brackets_check.f k l0 a1 = some r) :
    Calls Try.prog 39 #[.slice A0 l0.length c0, .int .i64 a1] w fun e w' => e = .returned (.int .i64 r) ∧ Below w.heap.size w w' := by
 have HR0 := Aside0.mk hr0
 have HC0 := Aside0.mk hc0
 clear hr0 hc0
 have HB := Aside0.mk (Below.refl w.heap.size w)
 have H : ((brackets_Right.f k l0).bind fun t139 => (if t139 = true then ((money_Right.f a1).bind fun t140 => (if t140 = true then (some 0) else (some 3))) else (some 1))) = some r := h
 clear h
 replace H := Option.bind_eq_some_iff.mp H
 obtain ⟨t139, A30, H⟩ := H
 (try dsimp only at H)
 have A3 := Aside0.mk A30
 clear A30
 by_cases c4 : t139 = true
 ·subst c4
  rw [if_pos rfl] at H
  replace H := Option.bind_eq_some_iff.mp H
  obtain ⟨t140, A50, H⟩ := H
  (try dsimp only at H)
  have A5 := Aside0.mk A50
  clear A50
  by_cases c6 : t140 = true
  ·subst c6
   rw [if_pos rfl] at H
   obtain rfl := Option.some.inj H
   go_enter Try.func39, Try.ntmps39
   go_wp2_with (first | ((with_reducible refine gate_callee (f := 22) rfl ?_); refine goesL_ (some 7) rfl rfl Try.func22 (by kernel_rfl) rfl #[.slice A0 l0.length c0] rfl ga_ ?_; (with_reducible refine (brackets_Right.calls k _ _ l0 true _ ?side1 ?side2 A3.out).mono ?_); (case side1 => repeat (first | exact HR0.out | (with_reducible refine Kd.C_alloc ?_ _) | (with_reducible refine Kd.C_drewN ?_ _) | (with_reducible refine Kd.C_drew ?_))); (case side2 => exact HC0.out); rintro e w7 ⟨rfl, hb⟩; refine ⟨_, rfl, ?_⟩; replace HB := hs_ hb; (try clear hb); (try clear hb2); (try clear hk); (try clear hi)) | ((with_reducible refine gate_callee (f := 40) rfl ?_); refine goesL_ (some 11) rfl rfl Try.func40 (by kernel_rfl) rfl #[.int .i64 a1] rfl ga_ ?_; (with_reducible refine (money_Right.calls a1 true _ A5.out).mono ?_); rintro e w' ⟨rfl, ⟨nd, rfl⟩⟩; refine ⟨_, rfl, ?_⟩))
   go_ret
   exact ⟨se_, bl_⟩
  ·replace c6 := Bool.eq_false_iff.mpr c6
   subst c6
   rw [if_neg (show ¬ (false = true) by decide)] at H
   obtain rfl := Option.some.inj H
   go_enter Try.func39, Try.ntmps39
   go_wp2_with (first | ((with_reducible refine gate_callee (f := 22) rfl ?_); refine goesL_ (some 7) rfl rfl Try.func22 (by kernel_rfl) rfl #[.slice A0 l0.length c0] rfl ga_ ?_; (with_reducible refine (brackets_Right.calls k _ _ l0 true _ ?side1 ?side2 A3.out).mono ?_); (case side1 => repeat (first | exact HR0.out | (with_reducible refine Kd.C_alloc ?_ _) | (with_reducible refine Kd.C_drewN ?_ _) | (with_reducible refine Kd.C_drew ?_))); (case side2 => exact HC0.out); rintro e w8 ⟨rfl, hb⟩; refine ⟨_, rfl, ?_⟩; replace HB := hs_ hb; (try clear hb); (try clear hb2); (try clear hk); (try clear hi)) | ((with_reducible refine gate_callee (f := 40) rfl ?_); refine goesL_ (some 11) rfl rfl Try.func40 (by kernel_rfl) rfl #[.int .i64 a1] rfl ga_ ?_; (with_reducible refine (money_Right.calls a1 false _ A5.out).mono ?_); rintro e w' ⟨rfl, ⟨nd, rfl⟩⟩; refine ⟨_, rfl, ?_⟩))
   go_ret
   exact ⟨se_, bl_⟩
 ·replace c4 := Bool.eq_false_iff.mpr c4
  subst c4
  rw [if_neg (show ¬ (false = true) by decide)] at H
  obtain rfl := Option.some.inj H
  go_enter Try.func39, Try.ntmps39
  go_wp2_with (first | ((with_reducible refine gate_callee (f := 22) rfl ?_); refine goesL_ (some 7) rfl rfl Try.func22 (by kernel_rfl) rfl #[.slice A0 l0.length c0] rfl ga_ ?_; (with_reducible refine (brackets_Right.calls k _ _ l0 false _ ?side1 ?side2 A3.out).mono ?_); (case side1 => repeat (first | exact HR0.out | (with_reducible refine Kd.C_alloc ?_ _) | (with_reducible refine Kd.C_drewN ?_ _) | (with_reducible refine Kd.C_drew ?_))); (case side2 => exact HC0.out); rintro e w9 ⟨rfl, hb⟩; refine ⟨_, rfl, ?_⟩; replace HB := hs_ hb; (try clear hb); (try clear hb2); (try clear hk); (try clear hi)))
  go_ret
  exact ⟨se_, bl_⟩

/-! ### brackets_Parts: function 34 -/
def brackets_Parts.l0 : Nat → List (S58) → Int → List Int → List (S58) → Int → Int → Option (List Int × Int)
  | 0, _, _, _, _, _, _ => none
  | k + 1, x0, x1, x7, x17, x18, x19 => if x19 < x18 then (if 0 ≤ x19 then (if x19 < (x17.length : Int) then (if (wrap64 (x19 + 1)) < (x0.length : Int) then (if 0 ≤ (wrap64 (x19 + 1)) then (if x1 ≤ ((rd_T58 x17 x19).f0) then (if x7.length < 17592186044416 then (brackets_Parts.l0 k x0 x1 (x7 ++ [0]) x17 x18 (wrap64 (x19 + 1))) else (none)) else (if x7.length < 17592186044416 then (brackets_Parts.l0 k x0 x1 (x7 ++ [wrap64 ((mn x1 ((rd_T58 x0 (wrap64 (x19 + 1))).f0)) - ((rd_T58 x17 x19).f0))]) x17 x18 (wrap64 (x19 + 1))) else (none))) else (none)) else (if x1 ≤ ((rd_T58 x17 x19).f0) then (if x7.length < 17592186044416 then (brackets_Parts.l0 k x0 x1 (x7 ++ [0]) x17 x18 (wrap64 (x19 + 1))) else (none)) else (if x7.length < 17592186044416 then (brackets_Parts.l0 k x0 x1 (x7 ++ [wrap64 (x1 - ((rd_T58 x17 x19).f0))]) x17 x18 (wrap64 (x19 + 1))) else (none)))) else (none)) else (none)) else (some (x7, 0))
def brackets_Parts.f (k : Nat) (l0 : List (S58)) (a1 : Int) : Option (List Int × Int) := (brackets_check.f k l0 a1).bind fun t141 => (if t141 = 0 then (brackets_Parts.l0 k l0 a1 ([] : List Int) l0 (l0.length : Int) 0) else (some (([] : List Int), t141)))
set_option maxHeartbeats 8000000 in
set_option maxRecDepth 100000 in
theorem brackets_Parts.calls (k : Nat) (A0 : Option Addr) (c0 : Nat) (l0 : List (S58)) (a1 : Int) (r1 : List Int) (r2 : Int) (w : World) (hr0 : Kd.C k58 w A0 l0.length l0) (hc0 : l0.length ≤ c0) (h : brackets_Parts.f k l0 a1 = some (r1, r2)) :
    Calls Try.prog 34 #[.slice A0 l0.length c0, .int .i64 a1] w fun e w' => ∃ v0_ : Value, e = .returned (.tuple #[v0_, .int .i64 r2]) ∧ Kd.R (Kd.int .i64) 3 w' w.heap.size (fun _ => True) v0_ r1 ∧ Below w.heap.size w w' := by
 have hu58 := Try.underlying58
 have HR0 := Aside0.mk hr0
 have HC0 := Aside0.mk hc0
 clear hr0 hc0
 have HB := Aside0.mk (Below.refl w.heap.size w)
 have H : ((brackets_check.f k l0 a1).bind fun t141 => (if t141 = 0 then (brackets_Parts.l0 k l0 a1 ([] : List Int) l0 (l0.length : Int) 0) else (some (([] : List Int), t141)))) = some (r1, r2) := h
 clear h
 replace H := Option.bind_eq_some_iff.mp H
 obtain ⟨t141, A30, H⟩ := H
 (try dsimp only at H)
 have A3 := Aside0.mk A30
 clear A30
 by_cases c4 : t141 = 0
 ·rw [if_pos c4] at H
  have c4b0 : (t141 == 0) = true := beq_iff_eq.mpr c4
  have c4b1 : (t141 != 0) = false := bne_eq_false_iff_eq.mpr c4
  clear c4
  have H' := Aside0.mk H
  clear H
  go_enter Try.func34, Try.ntmps34
  go_wp2_with (first | ((with_reducible refine gate_callee (f := 39) rfl ?_); refine goesL_ (some 13) rfl rfl Try.func39 (by kernel_rfl) rfl #[.slice A0 l0.length c0, .int .i64 a1] rfl ga_ ?_; (with_reducible refine (brackets_check.calls k _ _ l0 a1 t141 _ ?side1 ?side2 A3.out).mono ?_); (case side1 => repeat (first | exact HR0.out | (with_reducible refine Kd.C_alloc ?_ _) | (with_reducible refine Kd.C_drewN ?_ _) | (with_reducible refine Kd.C_drew ?_))); (case side2 => exact HC0.out); rintro e w5 ⟨rfl, hb⟩; refine ⟨_, rfl, ?_⟩; replace HB := hs_ hb; (try clear hb); (try clear hb2); (try clear hk); (try clear hi)))
  go_loopg [7, 19] k (fun kq v7 v19 w' => ∃ (x7_1 : List Int) (x19_1 : Int), v19 = .int .i64 x19_1 ∧ Aside0 (brackets_Parts.l0 kq l0 a1 x7_1 l0 (l0.length : Int) x19_1 = some (r1, r2)) ∧ Aside0 (kq ≤ k) ∧ Aside0 (Kd.R (Kd.int .i64) 3 w' w.heap.size (fun _ => True) v7 x7_1) ∧ Aside0 (Below w.heap.size w w'))
  case atStart => exact ⟨(([] : List Int)), (0), sm_, H', ⟨Nat.le_refl _⟩, ⟨kn_⟩, ⟨bl_⟩⟩
  case round =>
   clear H'
   try clear c4; try clear c4b0; try clear c4b1
   obtain ⟨x7_1, x19_1, rfl, HA, HK1, HO_7, HB⟩ := hrel
   cases gk with
   | zero => exact absurd HA.out (by simp [brackets_Parts.l0])
   | succ k1 =>
    have H := HA.out
    clear HA
    simp only [brackets_Parts.l0] at H
    by_cases c6 : x19_1 < (l0.length : Int)
    ·rw [if_pos c6] at H
     have c6b0 : decide (x19_1 < (l0.length : Int)) = true := decide_eq_true c6
     clear c6
     by_cases c7 : 0 ≤ x19_1
     ·rw [if_pos c7] at H
      have c7b0 : decide (0 ≤ x19_1) = true := decide_eq_true c7
      clear c7
      by_cases c8 : x19_1 < (l0.length : Int)
      ·rw [if_pos c8] at H
       have c8b0 : decide (x19_1 < (l0.length : Int)) = true := decide_eq_true c8
       clear c8
       by_cases c9 : (wrap64 (x19_1 + 1)) < (l0.length : Int)
       ·rw [if_pos c9] at H
        have c9b0 : decide ((wrap64 (x19_1 + 1)) < (l0.length : Int)) = true := decide_eq_true c9
        clear c9
        obtain ⟨ji10, hji10⟩ : ∃ j_ : Int, (wrap64 (x19_1 + 1)) = j_ := ⟨_, rfl⟩
        replace H : (if 0 ≤ (ji10) then (if a1 ≤ ((rd_T58 l0 x19_1).f0) then (if x7_1.length < 17592186044416 then (brackets_Parts.l0 k1 l0 a1 (x7_1 ++ [0]) l0 (l0.length : Int) ji10) else (none)) else (if x7_1.length < 17592186044416 then (brackets_Parts.l0 k1 l0 a1 (x7_1 ++ [wrap64 ((mn a1 ((rd_T58 l0 (ji10)).f0)) - ((rd_T58 l0 x19_1).f0))]) l0 (l0.length : Int) ji10) else (none))) else (none)) = some (r1, r2) := by first | (rw [hji10] at H; exact H) | (simp only [hji10] at H ⊢; exact H)
        (try rw [hji10] at c9b0)
        have hji10w : (IntKind.i64.wrap (x19_1 + 1)) = ji10 := (i64_w _).trans hji10
        by_cases c11 : 0 ≤ (ji10)
        ·rw [if_pos c11] at H
         have c11b0 : decide (0 ≤ (ji10)) = true := decide_eq_true c11
         clear c11
         obtain ⟨ji12, hji12⟩ : ∃ j_ : Int, (mn a1 ((rd_T58 l0 (ji10)).f0)) = j_ := ⟨_, rfl⟩
         replace H : (if a1 ≤ ((rd_T58 l0 x19_1).f0) then (if x7_1.length < 17592186044416 then (brackets_Parts.l0 k1 l0 a1 (x7_1 ++ [0]) l0 (l0.length : Int) ji10) else (none)) else (if x7_1.length < 17592186044416 then (brackets_Parts.l0 k1 l0 a1 (x7_1 ++ [wrap64 ((ji12) - ((rd_T58 l0 x19_1).f0))]) l0 (l0.length : Int) ji10) else (none))) = some (r1, r2) := by first | (rw [hji12] at H; exact H) | (simp only [hji12] at H ⊢; exact H)
         have hji12_ : (if ((rd_T58 l0 (ji10)).f0) < a1 then ((rd_T58 l0 (ji10)).f0) else a1) = ji12 := hji12
         by_cases c13 : a1 ≤ ((rd_T58 l0 x19_1).f0)
         ·rw [if_pos c13] at H
          have c13b0 : decide (a1 ≤ ((rd_T58 l0 x19_1).f0)) = true := decide_eq_true c13
          clear c13
          by_cases c14 : x7_1.length < 17592186044416
          ·rw [if_pos c14] at H
           have LMc14 := Aside0.mk c14
           clear c14
           obtain ⟨y145, hy145⟩ : ∃ y_ : List Int, y_ = (x7_1 ++ [0]) := ⟨_, rfl⟩
           replace H : (brackets_Parts.l0 k1 l0 a1 y145 l0 (l0.length : Int) ji10) = some (r1, r2) := by first | (rw [hy145]; with_reducible exact H) | (have H2_ := (Option.bind_some _ _).symm.trans H; rw [hy145]; with_reducible exact H2_) | (have H2_ := (Option.bind_some _ _).symm.trans H; with_reducible exact H2_) | with_reducible exact H | (rw [hy145]; exact H) | exact H
           have Ny145 := Aside0.mk hy145
           clear hy145
           have H' := Aside0.mk H
           clear H
           have p142 : 0 ≤ (x19_1 : Int) := od_
           have q142 : x19_1 < (l0.length : Int) := od_
           obtain ⟨ad142, e142, hx142_0, hx142_1⟩ := at_T58 HR0.out x19_1 p142 q142
           cases e142
           replace hx142_0 := (HB.out.cell (World.block_lt_of_cell? w _ hx142_0)).trans hx142_0
           replace hx142_1 := (HB.out.cell (World.block_lt_of_cell? w _ hx142_1)).trans hx142_1
           replace p142 := eq_true p142
           replace q142 := eq_true q142
           go_wp2_with (first | ((with_reducible refine gate_dst (N := 9) rfl ?_); refine bx_ 9 #[.int .i64 0, .int .i64 0] 58 ?_; intro gb143 hg w15 hbox hb; have BK143 := Aside0.mk hbox; have GW143 := gs_ hg; have GE143 := gs_ hg; replace HO_7 := rl_ HO_7.out hb; replace HB := hs_ hb; clear hb hbox hg; obtain ⟨hcz16_0, hcz16_1, hfz16_0, hfz16_1⟩ := c2_ BK143.out; have p144 : 0 ≤ ((ji10) : Int) := od_; have q144 : (ji10) < (l0.length : Int) := od_; obtain ⟨ad144, e144, hx144_0, hx144_1⟩ := at_T58 HR0.out (ji10) p144 q144; obtain rfl : ad142 = ad144 := (by injection e144); have hn144_0 : ad142.block ≠ gb143 := Nat.ne_of_lt (Nat.lt_of_lt_of_le (by have := World.block_lt_of_cell? _ _ hx144_0; first | rwa [add_block] at this | exact this) GW143.out); have hn144_1 : ad142.block ≠ gb143 := Nat.ne_of_lt (Nat.lt_of_lt_of_le (by have := World.block_lt_of_cell? _ _ hx144_0; first | rwa [add_block] at this | exact this) GW143.out); replace hx144_0 := (HB.out.cell (World.block_lt_of_cell? w _ hx144_0)).trans hx144_0; replace hx144_1 := (HB.out.cell (World.block_lt_of_cell? w _ hx144_1)).trans hx144_1; replace hx144_0 := (cell_far (p := ⟨gb143, 0, none⟩) (by first | (rw [add_block]; exact hn144_0) | (show (Addr.add _ _).block ≠ _; rw [add_block]; exact hn144_0) | exact hn144_0) (.int .i64 ((rd_T58 l0 x19_1).f0))).trans hx144_0; replace hx144_1 := (cell_far (p := ⟨gb143, 0, none⟩) (by first | (rw [add_block]; exact hn144_0) | (show (Addr.add _ _).block ≠ _; rw [add_block]; exact hn144_0) | exact hn144_0) (.int .i64 ((rd_T58 l0 x19_1).f0))).trans hx144_1; replace hx144_0 := (cell_far (p := ⟨gb143, 1, none⟩) (by first | (rw [add_block]; exact hn144_1) | (show (Addr.add _ _).block ≠ _; rw [add_block]; exact hn144_1) | exact hn144_1) (.int .i64 ((rd_T58 l0 x19_1).f1))).trans hx144_0; replace hx144_1 := (cell_far (p := ⟨gb143, 1, none⟩) (by first | (rw [add_block]; exact hn144_1) | (show (Addr.add _ _).block ≠ _; rw [add_block]; exact hn144_1) | exact hn144_1) (.int .i64 ((rd_T58 l0 x19_1).f1))).trans hx144_1; clear hn144_0; clear hn144_1; replace p144 := eq_true p144; replace q144 := eq_true q144) | ((with_reducible refine gate_builtin (b := .append) (xs := #[.tmp 44, .tmp 49]) rfl ?_); at_builtin; refine Kd.R_append (Kd.int .i64) (w0 := w) w.heap.size rfl (.tmp 44) (.tmp 49) 28 3 (.int .i64 0) 8 rfl Try.underlying28 info3 rfl (by decide) (by omega) u7 x7_1 0 [.int .i64 0] (fun _ => True) (fun _ => False) rfl (by first | (go_simp; done) | (go_simp; rfl)) ?aP (fun _ hk => hk.elim) ?aF ?aO ?aB ?aS ?aL ?_; (case aP => exact rfl); (case aB => exact bl_); (case aF => exact (fun _ _ => trivial)); (case aO => exact (rs_ (ty_ HO_7.out BK143.out))); (case aS => exact (below_size bl_)); (case aL => have := LMc14.out; omega); intro v146 w17 ho hb hg hat; rw [← Ny145.out] at ho; have HO147 := Aside0.mk (ho); replace BK143 := Aside0.mk (blk_grown (g := gb143) (o := .cells #[.int .i64 ((rd_T58 l0 x19_1).f0), .int .i64 ((rd_T58 l0 x19_1).f1)] 58 (0, 0)) (bp_ BK143.out) hg (Kd.R_ne HO_7.out BK143.out (by decide))); replace HB := Aside0.mk (hb); clear HO_7; clear ho hb hg hat))
           go_roundg k1
           case measure => have := HK1.out; omega
           case rel => exact ⟨(y145), (ji10), (by first | rfl | (simp; done) | (simp only [← hji10] <;> (first | rfl | simp)) | (simp [*]; done)), H', ⟨by have := HK1.out; omega⟩, ⟨rs_ HO147.out⟩, ⟨bl_⟩⟩
          ·rw [if_neg c14] at H
           exact absurd H (by simp)
         ·rw [if_neg c13] at H
          have c13b0 : decide (a1 ≤ ((rd_T58 l0 x19_1).f0)) = false := decide_eq_false c13
          clear c13
          by_cases c18 : x7_1.length < 17592186044416
          ·rw [if_pos c18] at H
           have LMc18 := Aside0.mk c18
           clear c18
           obtain ⟨y148, hy148⟩ : ∃ y_ : List Int, y_ = (x7_1 ++ [wrap64 ((ji12) - ((rd_T58 l0 x19_1).f0))]) := ⟨_, rfl⟩
           replace H : (brackets_Parts.l0 k1 l0 a1 y148 l0 (l0.length : Int) ji10) = some (r1, r2) := by first | (rw [hy148]; with_reducible exact H) | (have H2_ := (Option.bind_some _ _).symm.trans H; rw [hy148]; with_reducible exact H2_) | (have H2_ := (Option.bind_some _ _).symm.trans H; with_reducible exact H2_) | with_reducible exact H | (rw [hy148]; exact H) | exact H
           have Ny148 := Aside0.mk hy148
           clear hy148
           have H' := Aside0.mk H
           clear H
           have p142 : 0 ≤ (x19_1 : Int) := od_
           have q142 : x19_1 < (l0.length : Int) := od_
           obtain ⟨ad142, e142, hx142_0, hx142_1⟩ := at_T58 HR0.out x19_1 p142 q142
           cases e142
           replace hx142_0 := (HB.out.cell (World.block_lt_of_cell? w _ hx142_0)).trans hx142_0
           replace hx142_1 := (HB.out.cell (World.block_lt_of_cell? w _ hx142_1)).trans hx142_1
           replace p142 := eq_true p142
           replace q142 := eq_true q142
           go_wp2_with (first | ((with_reducible refine gate_dst (N := 9) rfl ?_); refine bx_ 9 #[.int .i64 0, .int .i64 0] 58 ?_; intro gb143 hg w19 hbox hb; have BK143 := Aside0.mk hbox; have GW143 := gs_ hg; have GE143 := gs_ hg; replace HO_7 := rl_ HO_7.out hb; replace HB := hs_ hb; clear hb hbox hg; obtain ⟨hcz20_0, hcz20_1, hfz20_0, hfz20_1⟩ := c2_ BK143.out; have p144 : 0 ≤ ((ji10) : Int) := od_; have q144 : (ji10) < (l0.length : Int) := od_; obtain ⟨ad144, e144, hx144_0, hx144_1⟩ := at_T58 HR0.out (ji10) p144 q144; obtain rfl : ad142 = ad144 := (by injection e144); have hn144_0 : ad142.block ≠ gb143 := Nat.ne_of_lt (Nat.lt_of_lt_of_le (by have := World.block_lt_of_cell? _ _ hx144_0; first | rwa [add_block] at this | exact this) GW143.out); have hn144_1 : ad142.block ≠ gb143 := Nat.ne_of_lt (Nat.lt_of_lt_of_le (by have := World.block_lt_of_cell? _ _ hx144_0; first | rwa [add_block] at this | exact this) GW143.out); replace hx144_0 := (HB.out.cell (World.block_lt_of_cell? w _ hx144_0)).trans hx144_0; replace hx144_1 := (HB.out.cell (World.block_lt_of_cell? w _ hx144_1)).trans hx144_1; replace hx144_0 := (cell_far (p := ⟨gb143, 0, none⟩) (by first | (rw [add_block]; exact hn144_0) | (show (Addr.add _ _).block ≠ _; rw [add_block]; exact hn144_0) | exact hn144_0) (.int .i64 ((rd_T58 l0 x19_1).f0))).trans hx144_0; replace hx144_1 := (cell_far (p := ⟨gb143, 0, none⟩) (by first | (rw [add_block]; exact hn144_0) | (show (Addr.add _ _).block ≠ _; rw [add_block]; exact hn144_0) | exact hn144_0) (.int .i64 ((rd_T58 l0 x19_1).f0))).trans hx144_1; replace hx144_0 := (cell_far (p := ⟨gb143, 1, none⟩) (by first | (rw [add_block]; exact hn144_1) | (show (Addr.add _ _).block ≠ _; rw [add_block]; exact hn144_1) | exact hn144_1) (.int .i64 ((rd_T58 l0 x19_1).f1))).trans hx144_0; replace hx144_1 := (cell_far (p := ⟨gb143, 1, none⟩) (by first | (rw [add_block]; exact hn144_1) | (show (Addr.add _ _).block ≠ _; rw [add_block]; exact hn144_1) | exact hn144_1) (.int .i64 ((rd_T58 l0 x19_1).f1))).trans hx144_1; clear hn144_0; clear hn144_1; replace p144 := eq_true p144; replace q144 := eq_true q144) | ((with_reducible refine gate_builtin (b := .append) (xs := #[.tmp 44, .tmp 49]) rfl ?_); at_builtin; refine Kd.R_append (Kd.int .i64) (w0 := w) w.heap.size rfl (.tmp 44) (.tmp 49) 28 3 (.int .i64 0) 8 rfl Try.underlying28 info3 rfl (by decide) (by omega) u7 x7_1 (wrap64 ((ji12) - ((rd_T58 l0 x19_1).f0))) [.int .i64 (wrap64 ((ji12) - ((rd_T58 l0 x19_1).f0)))] (fun _ => True) (fun _ => False) rfl (by first | (go_simp; done) | (go_simp; rfl)) ?aP (fun _ hk => hk.elim) ?aF ?aO ?aB ?aS ?aL ?_; (case aP => exact rfl); (case aB => exact bl_); (case aF => exact (fun _ _ => trivial)); (case aO => exact (rs_ (ty_ HO_7.out BK143.out))); (case aS => exact (below_size bl_)); (case aL => have := LMc18.out; omega); intro v149 w21 ho hb hg hat; rw [← Ny148.out] at ho; have HO150 := Aside0.mk (ho); replace BK143 := Aside0.mk (blk_grown (g := gb143) (o := .cells #[.int .i64 ((rd_T58 l0 x19_1).f0), .int .i64 ((rd_T58 l0 x19_1).f1)] 58 (0, 0)) (bp_ BK143.out) hg (Kd.R_ne HO_7.out BK143.out (by decide))); replace HB := Aside0.mk (hb); clear HO_7; clear ho hb hg hat))
           go_roundg k1
           case measure => have := HK1.out; omega
           case rel => exact ⟨(y148), (ji10), (by first | rfl | (simp; done) | (simp only [← hji10] <;> (first | rfl | simp)) | (simp [*]; done)), H', ⟨by have := HK1.out; omega⟩, ⟨rs_ HO150.out⟩, ⟨bl_⟩⟩
          ·rw [if_neg c18] at H
           exact absurd H (by simp)
        ·rw [if_neg c11] at H
         exact absurd H (by simp)
       ·rw [if_neg c9] at H
        have c9b0 : decide ((wrap64 (x19_1 + 1)) < (l0.length : Int)) = false := decide_eq_false c9
        clear c9
        by_cases c22 : a1 ≤ ((rd_T58 l0 x19_1).f0)
        ·rw [if_pos c22] at H
         have c22b0 : decide (a1 ≤ ((rd_T58 l0 x19_1).f0)) = true := decide_eq_true c22
         clear c22
         by_cases c23 : x7_1.length < 17592186044416
         ·rw [if_pos c23] at H
          have LMc23 := Aside0.mk c23
          clear c23
          obtain ⟨y151, hy151⟩ : ∃ y_ : List Int, y_ = (x7_1 ++ [0]) := ⟨_, rfl⟩
          replace H : (brackets_Parts.l0 k1 l0 a1 y151 l0 (l0.length : Int) (wrap64 (x19_1 + 1))) = some (r1, r2) := by first | (rw [hy151]; with_reducible exact H) | (have H2_ := (Option.bind_some _ _).symm.trans H; rw [hy151]; with_reducible exact H2_) | (have H2_ := (Option.bind_some _ _).symm.trans H; with_reducible exact H2_) | with_reducible exact H | (rw [hy151]; exact H) | exact H
          have Ny151 := Aside0.mk hy151
          clear hy151
          have H' := Aside0.mk H
          clear H
          have p142 : 0 ≤ (x19_1 : Int) := od_
          have q142 : x19_1 < (l0.length : Int) := od_
          obtain ⟨ad142, e142, hx142_0, hx142_1⟩ := at_T58 HR0.out x19_1 p142 q142
          cases e142
          replace hx142_0 := (HB.out.cell (World.block_lt_of_cell? w _ hx142_0)).trans hx142_0
          replace hx142_1 := (HB.out.cell (World.block_lt_of_cell? w _ hx142_1)).trans hx142_1
          replace p142 := eq_true p142
          replace q142 := eq_true q142
          go_wp2_with (first | ((with_reducible refine gate_dst (N := 9) rfl ?_); refine bx_ 9 #[.int .i64 0, .int .i64 0] 58 ?_; intro gb143 hg w24 hbox hb; have BK143 := Aside0.mk hbox; have GW143 := gs_ hg; have GE143 := gs_ hg; replace HO_7 := rl_ HO_7.out hb; replace HB := hs_ hb; clear hb hbox hg; obtain ⟨hcz25_0, hcz25_1, hfz25_0, hfz25_1⟩ := c2_ BK143.out) | ((with_reducible refine gate_builtin (b := .append) (xs := #[.tmp 44, .tmp 49]) rfl ?_); at_builtin; refine Kd.R_append (Kd.int .i64) (w0 := w) w.heap.size rfl (.tmp 44) (.tmp 49) 28 3 (.int .i64 0) 8 rfl Try.underlying28 info3 rfl (by decide) (by omega) u7 x7_1 0 [.int .i64 0] (fun _ => True) (fun _ => False) rfl (by first | (go_simp; done) | (go_simp; rfl)) ?aP (fun _ hk => hk.elim) ?aF ?aO ?aB ?aS ?aL ?_; (case aP => exact rfl); (case aB => exact bl_); (case aF => exact (fun _ _ => trivial)); (case aO => exact (rs_ (ty_ HO_7.out BK143.out))); (case aS => exact (below_size bl_)); (case aL => have := LMc23.out; omega); intro v152 w26 ho hb hg hat; rw [← Ny151.out] at ho; have HO153 := Aside0.mk (ho); replace BK143 := Aside0.mk (blk_grown (g := gb143) (o := .cells #[.int .i64 ((rd_T58 l0 x19_1).f0), .int .i64 ((rd_T58 l0 x19_1).f1)] 58 (0, 0)) (bp_ BK143.out) hg (Kd.R_ne HO_7.out BK143.out (by decide))); replace HB := Aside0.mk (hb); clear HO_7; clear ho hb hg hat))
          go_roundg k1
          case measure => have := HK1.out; omega
          case rel => exact ⟨(y151), (wrap64 (x19_1 + 1)), sm_, H', ⟨by have := HK1.out; omega⟩, ⟨rs_ HO153.out⟩, ⟨bl_⟩⟩
         ·rw [if_neg c23] at H
          exact absurd H (by simp)
        ·rw [if_neg c22] at H
         have c22b0 : decide (a1 ≤ ((rd_T58 l0 x19_1).f0)) = false := decide_eq_false c22
         clear c22
         by_cases c27 : x7_1.length < 17592186044416
         ·rw [if_pos c27] at H
          have LMc27 := Aside0.mk c27
          clear c27
          obtain ⟨y154, hy154⟩ : ∃ y_ : List Int, y_ = (x7_1 ++ [wrap64 (a1 - ((rd_T58 l0 x19_1).f0))]) := ⟨_, rfl⟩
          replace H : (brackets_Parts.l0 k1 l0 a1 y154 l0 (l0.length : Int) (wrap64 (x19_1 + 1))) = some (r1, r2) := by first | (rw [hy154]; with_reducible exact H) | (have H2_ := (Option.bind_some _ _).symm.trans H; rw [hy154]; with_reducible exact H2_) | (have H2_ := (Option.bind_some _ _).symm.trans H; with_reducible exact H2_) | with_reducible exact H | (rw [hy154]; exact H) | exact H
          have Ny154 := Aside0.mk hy154
          clear hy154
          have H' := Aside0.mk H
          clear H
          have p142 : 0 ≤ (x19_1 : Int) := od_
          have q142 : x19_1 < (l0.length : Int) := od_
          obtain ⟨ad142, e142, hx142_0, hx142_1⟩ := at_T58 HR0.out x19_1 p142 q142
          cases e142
          replace hx142_0 := (HB.out.cell (World.block_lt_of_cell? w _ hx142_0)).trans hx142_0
          replace hx142_1 := (HB.out.cell (World.block_lt_of_cell? w _ hx142_1)).trans hx142_1
          replace p142 := eq_true p142
          replace q142 := eq_true q142
          go_wp2_with (first | ((with_reducible refine gate_dst (N := 9) rfl ?_); refine bx_ 9 #[.int .i64 0, .int .i64 0] 58 ?_; intro gb143 hg w28 hbox hb; have BK143 := Aside0.mk hbox; have GW143 := gs_ hg; have GE143 := gs_ hg; replace HO_7 := rl_ HO_7.out hb; replace HB := hs_ hb; clear hb hbox hg; obtain ⟨hcz29_0, hcz29_1, hfz29_0, hfz29_1⟩ := c2_ BK143.out) | ((with_reducible refine gate_builtin (b := .append) (xs := #[.tmp 44, .tmp 49]) rfl ?_); at_builtin; refine Kd.R_append (Kd.int .i64) (w0 := w) w.heap.size rfl (.tmp 44) (.tmp 49) 28 3 (.int .i64 0) 8 rfl Try.underlying28 info3 rfl (by decide) (by omega) u7 x7_1 (wrap64 (a1 - ((rd_T58 l0 x19_1).f0))) [.int .i64 (wrap64 (a1 - ((rd_T58 l0 x19_1).f0)))] (fun _ => True) (fun _ => False) rfl (by first | (go_simp; done) | (go_simp; rfl)) ?aP (fun _ hk => hk.elim) ?aF ?aO ?aB ?aS ?aL ?_; (case aP => exact rfl); (case aB => exact bl_); (case aF => exact (fun _ _ => trivial)); (case aO => exact (rs_ (ty_ HO_7.out BK143.out))); (case aS => exact (below_size bl_)); (case aL => have := LMc27.out; omega); intro v155 w30 ho hb hg hat; rw [← Ny154.out] at ho; have HO156 := Aside0.mk (ho); replace BK143 := Aside0.mk (blk_grown (g := gb143) (o := .cells #[.int .i64 ((rd_T58 l0 x19_1).f0), .int .i64 ((rd_T58 l0 x19_1).f1)] 58 (0, 0)) (bp_ BK143.out) hg (Kd.R_ne HO_7.out BK143.out (by decide))); replace HB := Aside0.mk (hb); clear HO_7; clear ho hb hg hat))
          go_roundg k1
          case measure => have := HK1.out; omega
          case rel => exact ⟨(y154), (wrap64 (x19_1 + 1)), sm_, H', ⟨by have := HK1.out; omega⟩, ⟨rs_ HO156.out⟩, ⟨bl_⟩⟩
         ·rw [if_neg c27] at H
          exact absurd H (by simp)
      ·rw [if_neg c8] at H
       exact absurd H (by simp)
     ·rw [if_neg c7] at H
      exact absurd H (by simp)
    ·rw [if_neg c6] at H
     have c6b0 : decide (x19_1 < (l0.length : Int)) = false := decide_eq_false c6
     clear c6
     simp only [Option.some.injEq, Prod.mk.injEq] at H
     obtain ⟨rfl, rfl⟩ := H
     go_wp2
     go_ret2
     exact ⟨_, se_, by refine kr_ ?_; exact HO_7.out, bl_⟩
 ·rw [if_neg c4] at H
  have c4b0 : (t141 == 0) = false := beq_eq_false_iff_ne.mpr c4
  have c4b1 : (t141 != 0) = true := bne_iff_ne.mpr c4
  simp only [Option.some.injEq, Prod.mk.injEq] at H
  obtain ⟨rfl, rfl⟩ := H
  go_enter Try.func34, Try.ntmps34
  go_wp2_with (first | ((with_reducible refine gate_callee (f := 39) rfl ?_); refine goesL_ (some 13) rfl rfl Try.func39 (by kernel_rfl) rfl #[.slice A0 l0.length c0, .int .i64 a1] rfl ga_ ?_; (with_reducible refine (brackets_check.calls k _ _ l0 a1 t141 _ ?side1 ?side2 A3.out).mono ?_); (case side1 => repeat (first | exact HR0.out | (with_reducible refine Kd.C_alloc ?_ _) | (with_reducible refine Kd.C_drewN ?_ _) | (with_reducible refine Kd.C_drew ?_))); (case side2 => exact HC0.out); rintro e w31 ⟨rfl, hb⟩; refine ⟨_, rfl, ?_⟩; replace HB := hs_ hb; (try clear hb); (try clear hb2); (try clear hk); (try clear hi)))
  go_ret2
  exact ⟨_, se_, kn_, bl_⟩

end Go.Proofs.Ytocaneaofdbpoaa.PA
