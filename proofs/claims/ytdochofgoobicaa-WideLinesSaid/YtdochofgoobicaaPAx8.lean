/- Contracts of the functions of the given program: written by wip/pmprint.py, a program of this session, which runs the print of the kit over altered functions. -/
import Derived.Test.YtdochofgoobicaaPAx0
import Derived.Test.YtdochofgoobicaaPAx2
import Derived.Test.YtdochofgoobicaaPAx6
namespace Go.Proofs.Ytdochofgoobicaa.PA
open Go.RowKit Go.Proofs.YtdochofgoobicaaW.PrintWords Go.Proofs.YtdochofgoobicaaW.PrintLast Go.Proofs.YtdochofgoobicaaW.PrintMore
attribute [local go_sem] max2_int min2_int max_two min_two max_three min_three max_four min_four   -- for this text's walks alone
set_option linter.unusedVariables false
set_option linter.unusedSimpArgs false

/-! ### paymasterlaw02_WideUnits: function 6 -/
def paymasterlaw02_WideUnits.j0 : Nat → Int → Int → Int → Int → Bool → Option (Bool)
  | 0, _, _, _, _, _ => none
  | k + 1, x0, x1, x2, x9, x32 => if x32 = true then ((paymasterlaw02_awake.f k).bind fun t281 => (some t281)) else ((wide_MulDiv.f k x0 1 1 x9).bind fun bt282 => ((wide_MulDiv.f k x0 x0 x0 x9).bind fun bt284 => ((wide_MulDiv.f k x0 x1 x2 x9).bind fun bt286 => ((wide_MulDiv.f k (wrap64 (-x0)) x1 x2 x9).bind fun bt288 => ((wide_MulDiv.f k x0 (wrap64 (-x1)) (wrap64 (-x2)) x9).bind fun bt290 => (if bt282.1 = x0 then (if bt282.2 = 0 then (if x0 = 0 then (if bt284.2 = 4 then (if bt288.1 = (wrap64 (-bt286.1)) then (if bt286.2 = bt288.2 then (if bt290.1 = bt286.1 then (if bt286.2 = bt290.2 then ((paymasterlaw02_awake.f k).bind fun t292 => (some t292)) else (none)) else (none)) else (none)) else (none)) else (none)) else (if bt284.1 = x0 then (if bt284.2 = 0 then (if bt288.1 = (wrap64 (-bt286.1)) then (if bt286.2 = bt288.2 then (if bt290.1 = bt286.1 then (if bt286.2 = bt290.2 then ((paymasterlaw02_awake.f k).bind fun t293 => (some t293)) else (none)) else (none)) else (none)) else (none)) else (none)) else (none))) else (none)) else (none)))))))
def paymasterlaw02_WideUnits.f (k : Nat) (a0 : Int) (a1 : Int) (a2 : Int) (a3 : Int) : Option (Bool) := if a0 = (-9223372036854775808) then (paymasterlaw02_WideUnits.j0 k a0 a1 a2 (wrap64 (Int.tmod a3 4)) true) else (if a1 = (-9223372036854775808) then (paymasterlaw02_WideUnits.j0 k a0 a1 a2 (wrap64 (Int.tmod a3 4)) true) else (paymasterlaw02_WideUnits.j0 k a0 a1 a2 (wrap64 (Int.tmod a3 4)) (a2 == (-9223372036854775808))))
theorem paymasterlaw02_WideUnits.mono_l : ∀ k, (∀ y0 y1 y2 y3 y4, LeO (paymasterlaw02_WideUnits.j0 k y0 y1 y2 y3 y4) (paymasterlaw02_WideUnits.j0 (k + 1) y0 y1 y2 y3 y4))
  | 0 => fun _ _ _ _ _ r h => by simp [paymasterlaw02_WideUnits.j0] at h
  | k + 1 => by
    have ih0 := paymasterlaw02_WideUnits.mono_l k
    · intro y0 y1 y2 y3 y4
      unfold paymasterlaw02_WideUnits.j0
      repeat' first
      | (with_reducible exact ih0 _ _ _ _ _)
      | (with_reducible exact paymasterlaw02_awake.mono _)
      | (with_reducible exact wide_MulDiv.mono _ _ _ _ _)
      | (with_reducible exact LeO.refl _)
      | (with_reducible exact LeO.none _)
      | (with_reducible refine LeO.ite ?_ ?_)
      | (with_reducible refine LeO.bind ?_ (fun _ => ?_))
      | exact ih0 _ _ _ _ _
      | exact paymasterlaw02_awake.mono _
      | exact wide_MulDiv.mono _ _ _ _ _
      | exact LeO.none _
      | refine LeO.ite ?_ ?_
      | refine LeO.bind ?_ (fun _ => ?_)
theorem paymasterlaw02_WideUnits.mono : ∀ a0 a1 a2 a3 k, LeO (paymasterlaw02_WideUnits.f k a0 a1 a2 a3) (paymasterlaw02_WideUnits.f (k + 1) a0 a1 a2 a3) := by
  intro a0 a1 a2 a3 k
  have ih0 := paymasterlaw02_WideUnits.mono_l k
  unfold paymasterlaw02_WideUnits.f
  repeat' first
      | (with_reducible exact ih0 _ _ _ _ _)
      | (with_reducible exact paymasterlaw02_awake.mono _)
      | (with_reducible exact wide_MulDiv.mono _ _ _ _ _)
      | (with_reducible exact LeO.refl _)
      | (with_reducible exact LeO.none _)
      | (with_reducible refine LeO.ite ?_ ?_)
      | (with_reducible refine LeO.bind ?_ (fun _ => ?_))
      | exact ih0 _ _ _ _ _
      | exact paymasterlaw02_awake.mono _
      | exact wide_MulDiv.mono _ _ _ _ _
      | exact LeO.none _
      | refine LeO.ite ?_ ?_
      | refine LeO.bind ?_ (fun _ => ?_)
set_option maxHeartbeats 8000000 in
set_option maxRecDepth 100000 in
theorem paymasterlaw02_WideUnits.calls (k : Nat) (a0 : Int) (a1 : Int) (a2 : Int) (a3 : Int) (r : Bool) (w : World) (h : paymasterlaw02_WideUnits.f k a0 a1 a2 a3 = some r) :
    Calls Try.prog 6 #[.int .i64 a0, .int .i64 a1, .int .i64 a2, .int .u8 a3] w fun e w' => e = .returned (.bool r) ∧ Drawn0 w w' := by
  have H : (if a0 = (-9223372036854775808) then (paymasterlaw02_WideUnits.j0 k a0 a1 a2 (wrap64 (Int.tmod a3 4)) true) else (if a1 = (-9223372036854775808) then (paymasterlaw02_WideUnits.j0 k a0 a1 a2 (wrap64 (Int.tmod a3 4)) true) else (paymasterlaw02_WideUnits.j0 k a0 a1 a2 (wrap64 (Int.tmod a3 4)) (a2 == (-9223372036854775808))))) = some r := h
  clear h
  have HC5 := Aside0.mk H
  clear H
  go_enter Try.func6, Try.ntmps6
  go_upto_region 2 with (fail)
  go_cut [32] (fun v32 wc => ∃ (kq : Nat) (x32_4 : Bool), v32 = .bool x32_4 ∧ Aside0 (paymasterlaw02_WideUnits.j0 kq a0 a1 a2 (wrap64 (Int.tmod a3 4)) x32_4 = some r) ∧ Aside0 (kq ≤ k) ∧ Drawn0 w wc)
  case first =>
    have H := HC5.out
    clear HC5
    by_cases c6 : a0 = (-9223372036854775808)
    · rw [if_pos c6] at H
      have c6b0 : (a0 == (-9223372036854775808)) = true := beq_iff_eq.mpr c6
      have c6b1 : (a0 != (-9223372036854775808)) = false := bne_eq_false_iff_eq.mpr c6
      clear c6
      (first | rw [c6b0] | (simp only [i64_w, i32_w]; rw [c6b0]) | skip)
      have H' := Aside0.mk H
      clear H
      go_wp2
      go_meet
      case rel => exact ⟨_, (true), (by first | rfl | (simp; done) | (simp [*]; done)), H', ⟨by first | omega | exact Nat.le_refl _⟩, by repeat (first | exact Drawn0.refl _ | apply Drawn0.step)⟩
    · rw [if_neg c6] at H
      have c6b0 : (a0 == (-9223372036854775808)) = false := beq_eq_false_iff_ne.mpr c6
      have c6b1 : (a0 != (-9223372036854775808)) = true := bne_iff_ne.mpr c6
      (first | rw [c6b0] | (simp only [i64_w, i32_w]; rw [c6b0]) | skip)
      by_cases c7 : a1 = (-9223372036854775808)
      · rw [if_pos c7] at H
        have c7b0 : (a1 == (-9223372036854775808)) = true := beq_iff_eq.mpr c7
        have c7b1 : (a1 != (-9223372036854775808)) = false := bne_eq_false_iff_eq.mpr c7
        clear c7
        have H' := Aside0.mk H
        clear H
        go_wp2
        go_meet
        case rel => exact ⟨_, (true), (by first | rfl | (simp; done) | (simp [*]; done)), H', ⟨by first | omega | exact Nat.le_refl _⟩, by repeat (first | exact Drawn0.refl _ | apply Drawn0.step)⟩
      · rw [if_neg c7] at H
        have c7b0 : (a1 == (-9223372036854775808)) = false := beq_eq_false_iff_ne.mpr c7
        have c7b1 : (a1 != (-9223372036854775808)) = true := bne_iff_ne.mpr c7
        have H' := Aside0.mk H
        clear H
        go_wp2
        go_meet
        case rel => exact ⟨_, ((a2 == (-9223372036854775808))), (by first | rfl | (simp; done) | (simp [*]; done)), H', ⟨by first | omega | exact Nat.le_refl _⟩, by repeat (first | exact Drawn0.refl _ | apply Drawn0.step)⟩
  case rest =>
    clear HC5
    try clear p2
    try clear c6
    try clear c6b0
    try clear c6b1
    try clear p6
    try clear c7
    try clear c7b0
    try clear c7b1
    obtain ⟨kq, x32_4, rfl, HA, HJ4, ⟨mc4, rfl⟩⟩ := hcut
    cases kq with
    | zero => exact absurd HA.out (by simp [paymasterlaw02_WideUnits.j0])
    | succ kj4 =>
      have H := HA.out
      clear HA
      simp only [paymasterlaw02_WideUnits.j0] at H
      by_cases c8 : x32_4 = true
      · subst c8
        have H1 : ((paymasterlaw02_awake.f kj4).bind fun t281 => (some t281)) = some r := by rw [if_pos rfl] at H; exact H
        clear H
        have H := H1
        clear H1
        replace H := Option.bind_eq_some_iff.mp H
        obtain ⟨t281, A90, H⟩ := H
        replace H : (some t281) = some r := H
        have A9 := Aside0.mk A90
        clear A90
        obtain rfl := Option.some.inj H
        go_wp2_with (first | ((with_reducible refine gate_callee (f := 14) rfl ?_); refine goesL_ (some 33) rfl rfl Try.func14 (by kernel_rfl) rfl #[] rfl (by (try simp only [List.map_toArray, List.map_cons, List.map_nil]); first | done | rfl | (simp only [List.length_drop, List.length_take]; rfl)) ?_; (with_reducible refine (paymasterlaw02_awake.calls kj4  t281 _ A9.out).mono ?_); rintro e w' ⟨rfl, ⟨nd, rfl⟩⟩; refine ⟨_, rfl, ?_⟩))
        go_ret
        exact ⟨by first | rfl | (simp; done) | (simp [*]; done), by repeat (first | exact Drawn0.refl _ | apply Drawn0.step)⟩
      · replace c8 := Bool.eq_false_iff.mpr c8
        subst c8
        have H1 : ((wide_MulDiv.f kj4 a0 1 1 (wrap64 (Int.tmod a3 4))).bind fun bt282 => ((wide_MulDiv.f kj4 a0 a0 a0 (wrap64 (Int.tmod a3 4))).bind fun bt284 => ((wide_MulDiv.f kj4 a0 a1 a2 (wrap64 (Int.tmod a3 4))).bind fun bt286 => ((wide_MulDiv.f kj4 (wrap64 (-a0)) a1 a2 (wrap64 (Int.tmod a3 4))).bind fun bt288 => ((wide_MulDiv.f kj4 a0 (wrap64 (-a1)) (wrap64 (-a2)) (wrap64 (Int.tmod a3 4))).bind fun bt290 => (if bt282.1 = a0 then (if bt282.2 = 0 then (if a0 = 0 then (if bt284.2 = 4 then (if bt288.1 = (wrap64 (-bt286.1)) then (if bt286.2 = bt288.2 then (if bt290.1 = bt286.1 then (if bt286.2 = bt290.2 then ((paymasterlaw02_awake.f kj4).bind fun t292 => (some t292)) else (none)) else (none)) else (none)) else (none)) else (none)) else (if bt284.1 = a0 then (if bt284.2 = 0 then (if bt288.1 = (wrap64 (-bt286.1)) then (if bt286.2 = bt288.2 then (if bt290.1 = bt286.1 then (if bt286.2 = bt290.2 then ((paymasterlaw02_awake.f kj4).bind fun t293 => (some t293)) else (none)) else (none)) else (none)) else (none)) else (none)) else (none))) else (none)) else (none))))))) = some r := by rw [if_neg (show ¬ (false = true) by decide)] at H; exact H
        clear H
        have H := H1
        clear H1
        replace H := Option.bind_eq_some_iff.mp H
        obtain ⟨⟨t282, t283⟩, A100, H⟩ := H
        replace H : ((wide_MulDiv.f kj4 a0 a0 a0 (wrap64 (Int.tmod a3 4))).bind fun bt284 => ((wide_MulDiv.f kj4 a0 a1 a2 (wrap64 (Int.tmod a3 4))).bind fun bt286 => ((wide_MulDiv.f kj4 (wrap64 (-a0)) a1 a2 (wrap64 (Int.tmod a3 4))).bind fun bt288 => ((wide_MulDiv.f kj4 a0 (wrap64 (-a1)) (wrap64 (-a2)) (wrap64 (Int.tmod a3 4))).bind fun bt290 => (if t282 = a0 then (if t283 = 0 then (if a0 = 0 then (if bt284.2 = 4 then (if bt288.1 = (wrap64 (-bt286.1)) then (if bt286.2 = bt288.2 then (if bt290.1 = bt286.1 then (if bt286.2 = bt290.2 then ((paymasterlaw02_awake.f kj4).bind fun t292 => (some t292)) else (none)) else (none)) else (none)) else (none)) else (none)) else (if bt284.1 = a0 then (if bt284.2 = 0 then (if bt288.1 = (wrap64 (-bt286.1)) then (if bt286.2 = bt288.2 then (if bt290.1 = bt286.1 then (if bt286.2 = bt290.2 then ((paymasterlaw02_awake.f kj4).bind fun t293 => (some t293)) else (none)) else (none)) else (none)) else (none)) else (none)) else (none))) else (none)) else (none)))))) = some r := H
        have A10 := Aside0.mk A100
        clear A100
        replace H := Option.bind_eq_some_iff.mp H
        obtain ⟨⟨t284, t285⟩, A110, H⟩ := H
        replace H : ((wide_MulDiv.f kj4 a0 a1 a2 (wrap64 (Int.tmod a3 4))).bind fun bt286 => ((wide_MulDiv.f kj4 (wrap64 (-a0)) a1 a2 (wrap64 (Int.tmod a3 4))).bind fun bt288 => ((wide_MulDiv.f kj4 a0 (wrap64 (-a1)) (wrap64 (-a2)) (wrap64 (Int.tmod a3 4))).bind fun bt290 => (if t282 = a0 then (if t283 = 0 then (if a0 = 0 then (if t285 = 4 then (if bt288.1 = (wrap64 (-bt286.1)) then (if bt286.2 = bt288.2 then (if bt290.1 = bt286.1 then (if bt286.2 = bt290.2 then ((paymasterlaw02_awake.f kj4).bind fun t292 => (some t292)) else (none)) else (none)) else (none)) else (none)) else (none)) else (if t284 = a0 then (if t285 = 0 then (if bt288.1 = (wrap64 (-bt286.1)) then (if bt286.2 = bt288.2 then (if bt290.1 = bt286.1 then (if bt286.2 = bt290.2 then ((paymasterlaw02_awake.f kj4).bind fun t293 => (some t293)) else (none)) else (none)) else (none)) else (none)) else (none)) else (none))) else (none)) else (none))))) = some r := H
        have A11 := Aside0.mk A110
        clear A110
        replace H := Option.bind_eq_some_iff.mp H
        obtain ⟨⟨t286, t287⟩, A120, H⟩ := H
        replace H : ((wide_MulDiv.f kj4 (wrap64 (-a0)) a1 a2 (wrap64 (Int.tmod a3 4))).bind fun bt288 => ((wide_MulDiv.f kj4 a0 (wrap64 (-a1)) (wrap64 (-a2)) (wrap64 (Int.tmod a3 4))).bind fun bt290 => (if t282 = a0 then (if t283 = 0 then (if a0 = 0 then (if t285 = 4 then (if bt288.1 = (wrap64 (-t286)) then (if t287 = bt288.2 then (if bt290.1 = t286 then (if t287 = bt290.2 then ((paymasterlaw02_awake.f kj4).bind fun t292 => (some t292)) else (none)) else (none)) else (none)) else (none)) else (none)) else (if t284 = a0 then (if t285 = 0 then (if bt288.1 = (wrap64 (-t286)) then (if t287 = bt288.2 then (if bt290.1 = t286 then (if t287 = bt290.2 then ((paymasterlaw02_awake.f kj4).bind fun t293 => (some t293)) else (none)) else (none)) else (none)) else (none)) else (none)) else (none))) else (none)) else (none)))) = some r := H
        have A12 := Aside0.mk A120
        clear A120
        replace H := Option.bind_eq_some_iff.mp H
        obtain ⟨⟨t288, t289⟩, A130, H⟩ := H
        replace H : ((wide_MulDiv.f kj4 a0 (wrap64 (-a1)) (wrap64 (-a2)) (wrap64 (Int.tmod a3 4))).bind fun bt290 => (if t282 = a0 then (if t283 = 0 then (if a0 = 0 then (if t285 = 4 then (if t288 = (wrap64 (-t286)) then (if t287 = t289 then (if bt290.1 = t286 then (if t287 = bt290.2 then ((paymasterlaw02_awake.f kj4).bind fun t292 => (some t292)) else (none)) else (none)) else (none)) else (none)) else (none)) else (if t284 = a0 then (if t285 = 0 then (if t288 = (wrap64 (-t286)) then (if t287 = t289 then (if bt290.1 = t286 then (if t287 = bt290.2 then ((paymasterlaw02_awake.f kj4).bind fun t293 => (some t293)) else (none)) else (none)) else (none)) else (none)) else (none)) else (none))) else (none)) else (none))) = some r := H
        have A13 := Aside0.mk A130
        clear A130
        replace H := Option.bind_eq_some_iff.mp H
        obtain ⟨⟨t290, t291⟩, A140, H⟩ := H
        replace H : (if t282 = a0 then (if t283 = 0 then (if a0 = 0 then (if t285 = 4 then (if t288 = (wrap64 (-t286)) then (if t287 = t289 then (if t290 = t286 then (if t287 = t291 then ((paymasterlaw02_awake.f kj4).bind fun t292 => (some t292)) else (none)) else (none)) else (none)) else (none)) else (none)) else (if t284 = a0 then (if t285 = 0 then (if t288 = (wrap64 (-t286)) then (if t287 = t289 then (if t290 = t286 then (if t287 = t291 then ((paymasterlaw02_awake.f kj4).bind fun t293 => (some t293)) else (none)) else (none)) else (none)) else (none)) else (none)) else (none))) else (none)) else (none)) = some r := H
        have A14 := Aside0.mk A140
        clear A140
        by_cases c15 : t282 = a0
        · rw [if_pos c15] at H
          have c15b0 : (t282 == a0) = true := beq_iff_eq.mpr c15
          have c15b1 : (t282 != a0) = false := bne_eq_false_iff_eq.mpr c15
          clear c15
          by_cases c16 : t283 = 0
          · rw [if_pos c16] at H
            have c16b0 : (t283 == 0) = true := beq_iff_eq.mpr c16
            have c16b1 : (t283 != 0) = false := bne_eq_false_iff_eq.mpr c16
            clear c16
            by_cases c17 : a0 = 0
            · rw [if_pos c17] at H
              have c17b0 : (a0 == 0) = true := beq_iff_eq.mpr c17
              have c17b1 : (a0 != 0) = false := bne_eq_false_iff_eq.mpr c17
              clear c17
              by_cases c18 : t285 = 4
              · rw [if_pos c18] at H
                have c18b0 : (t285 == 4) = true := beq_iff_eq.mpr c18
                have c18b1 : (t285 != 4) = false := bne_eq_false_iff_eq.mpr c18
                clear c18
                by_cases c19 : t288 = (wrap64 (-t286))
                · rw [if_pos c19] at H
                  have c19b0 : (t288 == (wrap64 (-t286))) = true := beq_iff_eq.mpr c19
                  have c19b1 : (t288 != (wrap64 (-t286))) = false := bne_eq_false_iff_eq.mpr c19
                  clear c19
                  by_cases c20 : t287 = t289
                  · rw [if_pos c20] at H
                    have c20b0 : (t287 == t289) = true := beq_iff_eq.mpr c20
                    have c20b1 : (t287 != t289) = false := bne_eq_false_iff_eq.mpr c20
                    clear c20
                    by_cases c21 : t290 = t286
                    · rw [if_pos c21] at H
                      have c21b0 : (t290 == t286) = true := beq_iff_eq.mpr c21
                      have c21b1 : (t290 != t286) = false := bne_eq_false_iff_eq.mpr c21
                      clear c21
                      by_cases c22 : t287 = t291
                      · rw [if_pos c22] at H
                        have c22b0 : (t287 == t291) = true := beq_iff_eq.mpr c22
                        have c22b1 : (t287 != t291) = false := bne_eq_false_iff_eq.mpr c22
                        clear c22
                        replace H := Option.bind_eq_some_iff.mp H
                        obtain ⟨t292, A230, H⟩ := H
                        replace H : (some t292) = some r := H
                        have A23 := Aside0.mk A230
                        clear A230
                        obtain rfl := Option.some.inj H
                        go_wp2_with (first | ((with_reducible refine gate_callee (f := 11) rfl ?_); refine goesL_ (some 37) rfl rfl Try.func11 (by kernel_rfl) rfl #[.int .i64 a0, .int .i64 1, .int .i64 1, .int .i64 (wrap64 (Int.tmod a3 4))] rfl (by (try simp only [List.map_toArray, List.map_cons, List.map_nil]); first | done | rfl | (simp only [List.length_drop, List.length_take]; rfl)) ?_; (with_reducible refine (wide_MulDiv.calls kj4 a0 1 1 (wrap64 (Int.tmod a3 4)) t282 t283 _ A10.out).mono ?_); rintro e w' ⟨rfl, ⟨nd, rfl⟩⟩; refine ⟨_, rfl, ?_⟩) | ((with_reducible refine gate_callee (f := 11) rfl ?_); refine goesL_ (some 45) rfl rfl Try.func11 (by kernel_rfl) rfl #[.int .i64 a0, .int .i64 a0, .int .i64 a0, .int .i64 (wrap64 (Int.tmod a3 4))] rfl (by (try simp only [List.map_toArray, List.map_cons, List.map_nil]); first | done | rfl | (simp only [List.length_drop, List.length_take]; rfl)) ?_; (with_reducible refine (wide_MulDiv.calls kj4 a0 a0 a0 (wrap64 (Int.tmod a3 4)) t284 t285 _ A11.out).mono ?_); rintro e w' ⟨rfl, ⟨nd, rfl⟩⟩; refine ⟨_, rfl, ?_⟩) | ((with_reducible refine gate_callee (f := 11) rfl ?_); refine goesL_ (some 53) rfl rfl Try.func11 (by kernel_rfl) rfl #[.int .i64 a0, .int .i64 a1, .int .i64 a2, .int .i64 (wrap64 (Int.tmod a3 4))] rfl (by (try simp only [List.map_toArray, List.map_cons, List.map_nil]); first | done | rfl | (simp only [List.length_drop, List.length_take]; rfl)) ?_; (with_reducible refine (wide_MulDiv.calls kj4 a0 a1 a2 (wrap64 (Int.tmod a3 4)) t286 t287 _ A12.out).mono ?_); rintro e w' ⟨rfl, ⟨nd, rfl⟩⟩; refine ⟨_, rfl, ?_⟩) | ((with_reducible refine gate_callee (f := 11) rfl ?_); refine goesL_ (some 62) rfl rfl Try.func11 (by kernel_rfl) rfl #[.int .i64 (wrap64 (-a0)), .int .i64 a1, .int .i64 a2, .int .i64 (wrap64 (Int.tmod a3 4))] rfl (by (try simp only [List.map_toArray, List.map_cons, List.map_nil]); first | done | rfl | (simp only [List.length_drop, List.length_take]; rfl)) ?_; (with_reducible refine (wide_MulDiv.calls kj4 (wrap64 (-a0)) a1 a2 (wrap64 (Int.tmod a3 4)) t288 t289 _ A13.out).mono ?_); rintro e w' ⟨rfl, ⟨nd, rfl⟩⟩; refine ⟨_, rfl, ?_⟩) | ((with_reducible refine gate_callee (f := 11) rfl ?_); refine goesL_ (some 72) rfl rfl Try.func11 (by kernel_rfl) rfl #[.int .i64 a0, .int .i64 (wrap64 (-a1)), .int .i64 (wrap64 (-a2)), .int .i64 (wrap64 (Int.tmod a3 4))] rfl (by (try simp only [List.map_toArray, List.map_cons, List.map_nil]); first | done | rfl | (simp only [List.length_drop, List.length_take]; rfl)) ?_; (with_reducible refine (wide_MulDiv.calls kj4 a0 (wrap64 (-a1)) (wrap64 (-a2)) (wrap64 (Int.tmod a3 4)) t290 t291 _ A14.out).mono ?_); rintro e w' ⟨rfl, ⟨nd, rfl⟩⟩; refine ⟨_, rfl, ?_⟩) | (go_at_call 14; (with_reducible refine (paymasterlaw02_awake.calls kj4  t292 _ A23.out).mono ?_); rintro e w' ⟨rfl, ⟨nd, rfl⟩⟩))
                        go_ret
                        exact ⟨by first | rfl | (simp; done) | (simp [*]; done), by repeat (first | exact Drawn0.refl _ | apply Drawn0.step)⟩
                      · rw [if_neg c22] at H
                        exact absurd H (by simp)
                    · rw [if_neg c21] at H
                      exact absurd H (by simp)
                  · rw [if_neg c20] at H
                    exact absurd H (by simp)
                · rw [if_neg c19] at H
                  exact absurd H (by simp)
              · rw [if_neg c18] at H
                exact absurd H (by simp)
            · rw [if_neg c17] at H
              have c17b0 : (a0 == 0) = false := beq_eq_false_iff_ne.mpr c17
              have c17b1 : (a0 != 0) = true := bne_iff_ne.mpr c17
              by_cases c24 : t284 = a0
              · rw [if_pos c24] at H
                have c24b0 : (t284 == a0) = true := beq_iff_eq.mpr c24
                have c24b1 : (t284 != a0) = false := bne_eq_false_iff_eq.mpr c24
                clear c24
                by_cases c25 : t285 = 0
                · rw [if_pos c25] at H
                  have c25b0 : (t285 == 0) = true := beq_iff_eq.mpr c25
                  have c25b1 : (t285 != 0) = false := bne_eq_false_iff_eq.mpr c25
                  clear c25
                  by_cases c26 : t288 = (wrap64 (-t286))
                  · rw [if_pos c26] at H
                    have c26b0 : (t288 == (wrap64 (-t286))) = true := beq_iff_eq.mpr c26
                    have c26b1 : (t288 != (wrap64 (-t286))) = false := bne_eq_false_iff_eq.mpr c26
                    clear c26
                    by_cases c27 : t287 = t289
                    · rw [if_pos c27] at H
                      have c27b0 : (t287 == t289) = true := beq_iff_eq.mpr c27
                      have c27b1 : (t287 != t289) = false := bne_eq_false_iff_eq.mpr c27
                      clear c27
                      by_cases c28 : t290 = t286
                      · rw [if_pos c28] at H
                        have c28b0 : (t290 == t286) = true := beq_iff_eq.mpr c28
                        have c28b1 : (t290 != t286) = false := bne_eq_false_iff_eq.mpr c28
                        clear c28
                        by_cases c29 : t287 = t291
                        · rw [if_pos c29] at H
                          have c29b0 : (t287 == t291) = true := beq_iff_eq.mpr c29
                          have c29b1 : (t287 != t291) = false := bne_eq_false_iff_eq.mpr c29
                          clear c29
                          replace H := Option.bind_eq_some_iff.mp H
                          obtain ⟨t293, A300, H⟩ := H
                          replace H : (some t293) = some r := H
                          have A30 := Aside0.mk A300
                          clear A300
                          obtain rfl := Option.some.inj H
                          go_wp2_with (first | ((with_reducible refine gate_callee (f := 11) rfl ?_); refine goesL_ (some 37) rfl rfl Try.func11 (by kernel_rfl) rfl #[.int .i64 a0, .int .i64 1, .int .i64 1, .int .i64 (wrap64 (Int.tmod a3 4))] rfl (by (try simp only [List.map_toArray, List.map_cons, List.map_nil]); first | done | rfl | (simp only [List.length_drop, List.length_take]; rfl)) ?_; (with_reducible refine (wide_MulDiv.calls kj4 a0 1 1 (wrap64 (Int.tmod a3 4)) t282 t283 _ A10.out).mono ?_); rintro e w' ⟨rfl, ⟨nd, rfl⟩⟩; refine ⟨_, rfl, ?_⟩) | ((with_reducible refine gate_callee (f := 11) rfl ?_); refine goesL_ (some 45) rfl rfl Try.func11 (by kernel_rfl) rfl #[.int .i64 a0, .int .i64 a0, .int .i64 a0, .int .i64 (wrap64 (Int.tmod a3 4))] rfl (by (try simp only [List.map_toArray, List.map_cons, List.map_nil]); first | done | rfl | (simp only [List.length_drop, List.length_take]; rfl)) ?_; (with_reducible refine (wide_MulDiv.calls kj4 a0 a0 a0 (wrap64 (Int.tmod a3 4)) t284 t285 _ A11.out).mono ?_); rintro e w' ⟨rfl, ⟨nd, rfl⟩⟩; refine ⟨_, rfl, ?_⟩) | ((with_reducible refine gate_callee (f := 11) rfl ?_); refine goesL_ (some 53) rfl rfl Try.func11 (by kernel_rfl) rfl #[.int .i64 a0, .int .i64 a1, .int .i64 a2, .int .i64 (wrap64 (Int.tmod a3 4))] rfl (by (try simp only [List.map_toArray, List.map_cons, List.map_nil]); first | done | rfl | (simp only [List.length_drop, List.length_take]; rfl)) ?_; (with_reducible refine (wide_MulDiv.calls kj4 a0 a1 a2 (wrap64 (Int.tmod a3 4)) t286 t287 _ A12.out).mono ?_); rintro e w' ⟨rfl, ⟨nd, rfl⟩⟩; refine ⟨_, rfl, ?_⟩) | ((with_reducible refine gate_callee (f := 11) rfl ?_); refine goesL_ (some 62) rfl rfl Try.func11 (by kernel_rfl) rfl #[.int .i64 (wrap64 (-a0)), .int .i64 a1, .int .i64 a2, .int .i64 (wrap64 (Int.tmod a3 4))] rfl (by (try simp only [List.map_toArray, List.map_cons, List.map_nil]); first | done | rfl | (simp only [List.length_drop, List.length_take]; rfl)) ?_; (with_reducible refine (wide_MulDiv.calls kj4 (wrap64 (-a0)) a1 a2 (wrap64 (Int.tmod a3 4)) t288 t289 _ A13.out).mono ?_); rintro e w' ⟨rfl, ⟨nd, rfl⟩⟩; refine ⟨_, rfl, ?_⟩) | ((with_reducible refine gate_callee (f := 11) rfl ?_); refine goesL_ (some 72) rfl rfl Try.func11 (by kernel_rfl) rfl #[.int .i64 a0, .int .i64 (wrap64 (-a1)), .int .i64 (wrap64 (-a2)), .int .i64 (wrap64 (Int.tmod a3 4))] rfl (by (try simp only [List.map_toArray, List.map_cons, List.map_nil]); first | done | rfl | (simp only [List.length_drop, List.length_take]; rfl)) ?_; (with_reducible refine (wide_MulDiv.calls kj4 a0 (wrap64 (-a1)) (wrap64 (-a2)) (wrap64 (Int.tmod a3 4)) t290 t291 _ A14.out).mono ?_); rintro e w' ⟨rfl, ⟨nd, rfl⟩⟩; refine ⟨_, rfl, ?_⟩) | (go_at_call 14; (with_reducible refine (paymasterlaw02_awake.calls kj4  t293 _ A30.out).mono ?_); rintro e w' ⟨rfl, ⟨nd, rfl⟩⟩))
                          go_ret
                          exact ⟨by first | rfl | (simp; done) | (simp [*]; done), by repeat (first | exact Drawn0.refl _ | apply Drawn0.step)⟩
                        · rw [if_neg c29] at H
                          exact absurd H (by simp)
                      · rw [if_neg c28] at H
                        exact absurd H (by simp)
                    · rw [if_neg c27] at H
                      exact absurd H (by simp)
                  · rw [if_neg c26] at H
                    exact absurd H (by simp)
                · rw [if_neg c25] at H
                  exact absurd H (by simp)
              · rw [if_neg c24] at H
                exact absurd H (by simp)
          · rw [if_neg c16] at H
            exact absurd H (by simp)
        · rw [if_neg c15] at H
          exact absurd H (by simp)

/-- THE ONE PURE STATEMENT of paymasterlaw02_WideUnits: yours. -/
def paymasterlaw02_WideUnits.Pure : Prop := ∀ (a0 : Int) (a1 : Int) (a2 : Int) (a3 : Int), (Lit.int .i64 a0).wf = true → (Lit.int .i64 a1).wf = true → (Lit.int .i64 a2).wf = true → (Lit.int .u8 a3).wf = true → ∃ k, paymasterlaw02_WideUnits.f k a0 a1 a2 a3 = some true
theorem paymasterlaw02_WideUnits.walk (P : paymasterlaw02_WideUnits.Pure) (a0 : Int) (a1 : Int) (a2 : Int) (a3 : Int) (w : World) (w0 : (Lit.int .i64 a0).wf = true) (w1 : (Lit.int .i64 a1).wf = true) (w2 : (Lit.int .i64 a2).wf = true) (w3 : (Lit.int .u8 a3).wf = true) :
    Calls Try.prog 6 #[.int .i64 a0, .int .i64 a1, .int .i64 a2, .int .u8 a3] w fun e w' => e = .returned (.bool true) ∧ Below w.heap.size w w' := by
  obtain ⟨k, h⟩ := P a0 a1 a2 a3 w0 w1 w2 w3
  refine (paymasterlaw02_WideUnits.calls k a0 a1 a2 a3 true w h).mono ?_
  rintro e w' ⟨rfl, hd⟩
  exact ⟨rfl, hd.below⟩

/-! ### paymasterlaw02_WideParts: function 7 -/
def paymasterlaw02_WideParts.f (k : Nat) (a0 : Int) (a1 : Int) (a2 : Int) : Option (Bool) := (wide_MulDiv.f k (wrap64 (a0 / 2)) (wrap64 (a1 / 2)) (wrap64 (a2 / 2)) 0).bind fun bt294 => (if bt294.2 = 0 then (if bt294.1 = 9223372036854775807 then ((wide_Cmp.f k bt294.1 (wrap64 (a2 / 2)) (wrap64 (a0 / 2)) (wrap64 (a1 / 2))).bind fun t297 => (if t297 ≤ 0 then ((paymasterlaw02_awake.f k).bind fun t298 => (some t298)) else (none))) else ((wide_Cmp.f k bt294.1 (wrap64 (a2 / 2)) (wrap64 (a0 / 2)) (wrap64 (a1 / 2))).bind fun t299 => (if t299 ≤ 0 then ((wide_Cmp.f k (wrap64 (bt294.1 + 1)) (wrap64 (a2 / 2)) (wrap64 (a0 / 2)) (wrap64 (a1 / 2))).bind fun t300 => (if t300 > 0 then ((paymasterlaw02_awake.f k).bind fun t301 => (some t301)) else (none))) else (none)))) else (if bt294.1 = 0 then (if ((bt294.2 == 4) == ((wrap64 (a2 / 2)) == 0)) = true then ((paymasterlaw02_awake.f k).bind fun t296 => (some t296)) else (none)) else (none)))
theorem paymasterlaw02_WideParts.mono : ∀ a0 a1 a2 k, LeO (paymasterlaw02_WideParts.f k a0 a1 a2) (paymasterlaw02_WideParts.f (k + 1) a0 a1 a2) := by
  intro a0 a1 a2 k
  unfold paymasterlaw02_WideParts.f
  repeat' first
      | (with_reducible exact paymasterlaw02_awake.mono _)
      | (with_reducible exact wide_Cmp.mono _ _ _ _ _)
      | (with_reducible exact wide_MulDiv.mono _ _ _ _ _)
      | (with_reducible exact LeO.refl _)
      | (with_reducible exact LeO.none _)
      | (with_reducible refine LeO.ite ?_ ?_)
      | (with_reducible refine LeO.bind ?_ (fun _ => ?_))
      | exact paymasterlaw02_awake.mono _
      | exact wide_Cmp.mono _ _ _ _ _
      | exact wide_MulDiv.mono _ _ _ _ _
      | exact LeO.none _
      | refine LeO.ite ?_ ?_
      | refine LeO.bind ?_ (fun _ => ?_)
set_option maxHeartbeats 8000000 in
set_option maxRecDepth 100000 in
theorem paymasterlaw02_WideParts.calls (k : Nat) (a0 : Int) (a1 : Int) (a2 : Int) (r : Bool) (w : World) (h : paymasterlaw02_WideParts.f k a0 a1 a2 = some r) :
    Calls Try.prog 7 #[.int .u64 a0, .int .u64 a1, .int .u64 a2] w fun e w' => e = .returned (.bool r) ∧ Drawn0 w w' := by
  have H : ((wide_MulDiv.f k (wrap64 (a0 / 2)) (wrap64 (a1 / 2)) (wrap64 (a2 / 2)) 0).bind fun bt294 => (if bt294.2 = 0 then (if bt294.1 = 9223372036854775807 then ((wide_Cmp.f k bt294.1 (wrap64 (a2 / 2)) (wrap64 (a0 / 2)) (wrap64 (a1 / 2))).bind fun t297 => (if t297 ≤ 0 then ((paymasterlaw02_awake.f k).bind fun t298 => (some t298)) else (none))) else ((wide_Cmp.f k bt294.1 (wrap64 (a2 / 2)) (wrap64 (a0 / 2)) (wrap64 (a1 / 2))).bind fun t299 => (if t299 ≤ 0 then ((wide_Cmp.f k (wrap64 (bt294.1 + 1)) (wrap64 (a2 / 2)) (wrap64 (a0 / 2)) (wrap64 (a1 / 2))).bind fun t300 => (if t300 > 0 then ((paymasterlaw02_awake.f k).bind fun t301 => (some t301)) else (none))) else (none)))) else (if bt294.1 = 0 then (if ((bt294.2 == 4) == ((wrap64 (a2 / 2)) == 0)) = true then ((paymasterlaw02_awake.f k).bind fun t296 => (some t296)) else (none)) else (none)))) = some r := h
  clear h
  replace H := Option.bind_eq_some_iff.mp H
  obtain ⟨⟨t294, t295⟩, A40, H⟩ := H
  replace H : (if t295 = 0 then (if t294 = 9223372036854775807 then ((wide_Cmp.f k t294 (wrap64 (a2 / 2)) (wrap64 (a0 / 2)) (wrap64 (a1 / 2))).bind fun t297 => (if t297 ≤ 0 then ((paymasterlaw02_awake.f k).bind fun t298 => (some t298)) else (none))) else ((wide_Cmp.f k t294 (wrap64 (a2 / 2)) (wrap64 (a0 / 2)) (wrap64 (a1 / 2))).bind fun t299 => (if t299 ≤ 0 then ((wide_Cmp.f k (wrap64 (t294 + 1)) (wrap64 (a2 / 2)) (wrap64 (a0 / 2)) (wrap64 (a1 / 2))).bind fun t300 => (if t300 > 0 then ((paymasterlaw02_awake.f k).bind fun t301 => (some t301)) else (none))) else (none)))) else (if t294 = 0 then (if ((t295 == 4) == ((wrap64 (a2 / 2)) == 0)) = true then ((paymasterlaw02_awake.f k).bind fun t296 => (some t296)) else (none)) else (none))) = some r := H
  have A4 := Aside0.mk A40
  clear A40
  by_cases c5 : t295 = 0
  · rw [if_pos c5] at H
    have c5b0 : (t295 == 0) = true := beq_iff_eq.mpr c5
    have c5b1 : (t295 != 0) = false := bne_eq_false_iff_eq.mpr c5
    clear c5
    by_cases c6 : t294 = 9223372036854775807
    · rw [if_pos c6] at H
      have c6b0 : (t294 == 9223372036854775807) = true := beq_iff_eq.mpr c6
      have c6b1 : (t294 != 9223372036854775807) = false := bne_eq_false_iff_eq.mpr c6
      clear c6
      replace H := Option.bind_eq_some_iff.mp H
      obtain ⟨t297, A70, H⟩ := H
      replace H : (if t297 ≤ 0 then ((paymasterlaw02_awake.f k).bind fun t298 => (some t298)) else (none)) = some r := H
      have A7 := Aside0.mk A70
      clear A70
      by_cases c8 : t297 ≤ 0
      · rw [if_pos c8] at H
        have c8b0 : decide (t297 ≤ 0) = true := decide_eq_true c8
        clear c8
        replace H := Option.bind_eq_some_iff.mp H
        obtain ⟨t298, A90, H⟩ := H
        replace H : (some t298) = some r := H
        have A9 := Aside0.mk A90
        clear A90
        obtain rfl := Option.some.inj H
        go_enter Try.func7, Try.ntmps7
        go_wp2_with (first | ((with_reducible refine gate_callee (f := 11) rfl ?_); refine goesL_ (some 25) rfl rfl Try.func11 (by kernel_rfl) rfl #[.int .i64 (wrap64 (a0 / 2)), .int .i64 (wrap64 (a1 / 2)), .int .i64 (wrap64 (a2 / 2)), .int .i64 0] rfl (by (try simp only [List.map_toArray, List.map_cons, List.map_nil]); first | done | rfl | (simp only [List.length_drop, List.length_take]; rfl)) ?_; (with_reducible refine (wide_MulDiv.calls k (wrap64 (a0 / 2)) (wrap64 (a1 / 2)) (wrap64 (a2 / 2)) 0 t294 t295 _ A4.out).mono ?_); rintro e w' ⟨rfl, ⟨nd, rfl⟩⟩; refine ⟨_, rfl, ?_⟩) | ((with_reducible refine gate_callee (f := 17) rfl ?_); refine goesL_ (some 48) rfl rfl Try.func17 (by kernel_rfl) rfl #[.int .i64 t294, .int .i64 (wrap64 (a2 / 2)), .int .i64 (wrap64 (a0 / 2)), .int .i64 (wrap64 (a1 / 2))] rfl (by (try simp only [List.map_toArray, List.map_cons, List.map_nil]); first | done | rfl | (simp only [List.length_drop, List.length_take]; rfl)) ?_; (with_reducible refine (wide_Cmp.calls k t294 (wrap64 (a2 / 2)) (wrap64 (a0 / 2)) (wrap64 (a1 / 2)) t297 _ A7.out).mono ?_); rintro e w' ⟨rfl, ⟨nd, rfl⟩⟩; refine ⟨_, rfl, ?_⟩) | (go_at_call 14; (with_reducible refine (paymasterlaw02_awake.calls k  t298 _ A9.out).mono ?_); rintro e w' ⟨rfl, ⟨nd, rfl⟩⟩))
        go_ret
        exact ⟨by first | rfl | (simp; done) | (simp [*]; done), by repeat (first | exact Drawn0.refl _ | apply Drawn0.step)⟩
      · rw [if_neg c8] at H
        exact absurd H (by simp)
    · rw [if_neg c6] at H
      have c6b0 : (t294 == 9223372036854775807) = false := beq_eq_false_iff_ne.mpr c6
      have c6b1 : (t294 != 9223372036854775807) = true := bne_iff_ne.mpr c6
      replace H := Option.bind_eq_some_iff.mp H
      obtain ⟨t299, A100, H⟩ := H
      replace H : (if t299 ≤ 0 then ((wide_Cmp.f k (wrap64 (t294 + 1)) (wrap64 (a2 / 2)) (wrap64 (a0 / 2)) (wrap64 (a1 / 2))).bind fun t300 => (if t300 > 0 then ((paymasterlaw02_awake.f k).bind fun t301 => (some t301)) else (none))) else (none)) = some r := H
      have A10 := Aside0.mk A100
      clear A100
      by_cases c11 : t299 ≤ 0
      · rw [if_pos c11] at H
        have c11b0 : decide (t299 ≤ 0) = true := decide_eq_true c11
        clear c11
        replace H := Option.bind_eq_some_iff.mp H
        obtain ⟨t300, A120, H⟩ := H
        replace H : (if t300 > 0 then ((paymasterlaw02_awake.f k).bind fun t301 => (some t301)) else (none)) = some r := H
        have A12 := Aside0.mk A120
        clear A120
        by_cases c13 : t300 > 0
        · rw [if_pos c13] at H
          have c13b0 : decide (0 < t300) = true := decide_eq_true c13
          clear c13
          replace H := Option.bind_eq_some_iff.mp H
          obtain ⟨t301, A140, H⟩ := H
          replace H : (some t301) = some r := H
          have A14 := Aside0.mk A140
          clear A140
          obtain rfl := Option.some.inj H
          go_enter Try.func7, Try.ntmps7
          go_wp2_with (first | ((with_reducible refine gate_callee (f := 11) rfl ?_); refine goesL_ (some 25) rfl rfl Try.func11 (by kernel_rfl) rfl #[.int .i64 (wrap64 (a0 / 2)), .int .i64 (wrap64 (a1 / 2)), .int .i64 (wrap64 (a2 / 2)), .int .i64 0] rfl (by (try simp only [List.map_toArray, List.map_cons, List.map_nil]); first | done | rfl | (simp only [List.length_drop, List.length_take]; rfl)) ?_; (with_reducible refine (wide_MulDiv.calls k (wrap64 (a0 / 2)) (wrap64 (a1 / 2)) (wrap64 (a2 / 2)) 0 t294 t295 _ A4.out).mono ?_); rintro e w' ⟨rfl, ⟨nd, rfl⟩⟩; refine ⟨_, rfl, ?_⟩) | ((with_reducible refine gate_callee (f := 17) rfl ?_); refine goesL_ (some 57) rfl rfl Try.func17 (by kernel_rfl) rfl #[.int .i64 t294, .int .i64 (wrap64 (a2 / 2)), .int .i64 (wrap64 (a0 / 2)), .int .i64 (wrap64 (a1 / 2))] rfl (by (try simp only [List.map_toArray, List.map_cons, List.map_nil]); first | done | rfl | (simp only [List.length_drop, List.length_take]; rfl)) ?_; (with_reducible refine (wide_Cmp.calls k t294 (wrap64 (a2 / 2)) (wrap64 (a0 / 2)) (wrap64 (a1 / 2)) t299 _ A10.out).mono ?_); rintro e w' ⟨rfl, ⟨nd, rfl⟩⟩; refine ⟨_, rfl, ?_⟩) | (go_at_call 17; (with_reducible refine (wide_Cmp.calls k (wrap64 (t294 + 1)) (wrap64 (a2 / 2)) (wrap64 (a0 / 2)) (wrap64 (a1 / 2)) t300 _ A12.out).mono ?_); rintro e w' ⟨rfl, ⟨nd, rfl⟩⟩) | (go_at_call 14; (with_reducible refine (paymasterlaw02_awake.calls k  t301 _ A14.out).mono ?_); rintro e w' ⟨rfl, ⟨nd, rfl⟩⟩))
          go_ret
          exact ⟨by first | rfl | (simp; done) | (simp [*]; done), by repeat (first | exact Drawn0.refl _ | apply Drawn0.step)⟩
        · rw [if_neg c13] at H
          exact absurd H (by simp)
      · rw [if_neg c11] at H
        exact absurd H (by simp)
  · rw [if_neg c5] at H
    have c5b0 : (t295 == 0) = false := beq_eq_false_iff_ne.mpr c5
    have c5b1 : (t295 != 0) = true := bne_iff_ne.mpr c5
    by_cases c15 : t294 = 0
    · rw [if_pos c15] at H
      have c15b0 : (t294 == 0) = true := beq_iff_eq.mpr c15
      have c15b1 : (t294 != 0) = false := bne_eq_false_iff_eq.mpr c15
      clear c15
      by_cases c16 : ((t295 == 4) == ((wrap64 (a2 / 2)) == 0)) = true
      · rw [if_pos c16] at H
        have c16b0 : ((t295 == 4) == ((wrap64 (a2 / 2)) == 0)) = true := c16
        (try (have c16b1 : decide ((t295 == 4) = ((wrap64 (a2 / 2)) == 0)) = true := by simpa using c16))
        (try (have c16b2 : ((t295 == 4) == ((wrap64 (a2 / 2)) == 0)) = true := by simpa using c16))
        clear c16
        replace H := Option.bind_eq_some_iff.mp H
        obtain ⟨t296, A170, H⟩ := H
        replace H : (some t296) = some r := H
        have A17 := Aside0.mk A170
        clear A170
        obtain rfl := Option.some.inj H
        go_enter Try.func7, Try.ntmps7
        go_wp2_with (first | ((with_reducible refine gate_callee (f := 11) rfl ?_); refine goesL_ (some 25) rfl rfl Try.func11 (by kernel_rfl) rfl #[.int .i64 (wrap64 (a0 / 2)), .int .i64 (wrap64 (a1 / 2)), .int .i64 (wrap64 (a2 / 2)), .int .i64 0] rfl (by (try simp only [List.map_toArray, List.map_cons, List.map_nil]); first | done | rfl | (simp only [List.length_drop, List.length_take]; rfl)) ?_; (with_reducible refine (wide_MulDiv.calls k (wrap64 (a0 / 2)) (wrap64 (a1 / 2)) (wrap64 (a2 / 2)) 0 t294 t295 _ A4.out).mono ?_); rintro e w' ⟨rfl, ⟨nd, rfl⟩⟩; refine ⟨_, rfl, ?_⟩) | (go_at_call 14; (with_reducible refine (paymasterlaw02_awake.calls k  t296 _ A17.out).mono ?_); rintro e w' ⟨rfl, ⟨nd, rfl⟩⟩))
        go_ret
        exact ⟨by first | rfl | (simp; done) | (simp [*]; done), by repeat (first | exact Drawn0.refl _ | apply Drawn0.step)⟩
      · rw [if_neg c16] at H
        exact absurd H (by simp)
    · rw [if_neg c15] at H
      exact absurd H (by simp)

/-- THE ONE PURE STATEMENT of paymasterlaw02_WideParts: yours. -/
def paymasterlaw02_WideParts.Pure : Prop := ∀ (a0 : Int) (a1 : Int) (a2 : Int), (Lit.int .u64 a0).wf = true → (Lit.int .u64 a1).wf = true → (Lit.int .u64 a2).wf = true → ∃ k, paymasterlaw02_WideParts.f k a0 a1 a2 = some true
theorem paymasterlaw02_WideParts.walk (P : paymasterlaw02_WideParts.Pure) (a0 : Int) (a1 : Int) (a2 : Int) (w : World) (w0 : (Lit.int .u64 a0).wf = true) (w1 : (Lit.int .u64 a1).wf = true) (w2 : (Lit.int .u64 a2).wf = true) :
    Calls Try.prog 7 #[.int .u64 a0, .int .u64 a1, .int .u64 a2] w fun e w' => e = .returned (.bool true) ∧ Below w.heap.size w w' := by
  obtain ⟨k, h⟩ := P a0 a1 a2 w0 w1 w2
  refine (paymasterlaw02_WideParts.calls k a0 a1 a2 true w h).mono ?_
  rintro e w' ⟨rfl, hd⟩
  exact ⟨rfl, hd.below⟩

/-! ### paymasterlaw02_WideTurns: function 8 -/
def paymasterlaw02_WideTurns.j0 : Nat → Int → Int → Int → Int → Bool → Option (Bool)
  | 0, _, _, _, _, _ => none
  | k + 1, x0, x1, x2, x3, x23 => if x23 = true then ((paymasterlaw02_awake.f k).bind fun t302 => (some t302)) else ((wide_Cmp.f k x0 x1 x2 x3).bind fun t303 => ((wide_Cmp.f k x1 x0 x3 x2).bind fun t304 => (if t304 = t303 then ((wide_Cmp.f k x2 x3 x0 x1).bind fun t305 => (if t305 = (wrap64 (-t303)) then ((wide_Cmp.f k (wrap64 (-x0)) (wrap64 (-x1)) x2 x3).bind fun t306 => (if t306 = t303 then ((wide_Cmp.f k (wrap64 (-x0)) x1 (wrap64 (-x2)) x3).bind fun t307 => (if t307 = (wrap64 (-t303)) then ((wide_Cmp.f k x0 x1 x0 x1).bind fun t308 => (if t308 = 0 then ((paymasterlaw02_awake.f k).bind fun t309 => (some t309)) else (none))) else (none))) else (none))) else (none))) else (none))))
def paymasterlaw02_WideTurns.f (k : Nat) (a0 : Int) (a1 : Int) (a2 : Int) (a3 : Int) : Option (Bool) := if a0 = (-9223372036854775808) then (paymasterlaw02_WideTurns.j0 k a0 a1 a2 a3 true) else (if a1 = (-9223372036854775808) then (paymasterlaw02_WideTurns.j0 k a0 a1 a2 a3 true) else (if a2 = (-9223372036854775808) then (paymasterlaw02_WideTurns.j0 k a0 a1 a2 a3 true) else (paymasterlaw02_WideTurns.j0 k a0 a1 a2 a3 (a3 == (-9223372036854775808)))))
theorem paymasterlaw02_WideTurns.mono_l : ∀ k, (∀ y0 y1 y2 y3 y4, LeO (paymasterlaw02_WideTurns.j0 k y0 y1 y2 y3 y4) (paymasterlaw02_WideTurns.j0 (k + 1) y0 y1 y2 y3 y4))
  | 0 => fun _ _ _ _ _ r h => by simp [paymasterlaw02_WideTurns.j0] at h
  | k + 1 => by
    have ih0 := paymasterlaw02_WideTurns.mono_l k
    · intro y0 y1 y2 y3 y4
      unfold paymasterlaw02_WideTurns.j0
      repeat' first
      | (with_reducible exact ih0 _ _ _ _ _)
      | (with_reducible exact paymasterlaw02_awake.mono _)
      | (with_reducible exact wide_Cmp.mono _ _ _ _ _)
      | (with_reducible exact LeO.refl _)
      | (with_reducible exact LeO.none _)
      | (with_reducible refine LeO.ite ?_ ?_)
      | (with_reducible refine LeO.bind ?_ (fun _ => ?_))
      | exact ih0 _ _ _ _ _
      | exact paymasterlaw02_awake.mono _
      | exact wide_Cmp.mono _ _ _ _ _
      | exact LeO.none _
      | refine LeO.ite ?_ ?_
      | refine LeO.bind ?_ (fun _ => ?_)
theorem paymasterlaw02_WideTurns.mono : ∀ a0 a1 a2 a3 k, LeO (paymasterlaw02_WideTurns.f k a0 a1 a2 a3) (paymasterlaw02_WideTurns.f (k + 1) a0 a1 a2 a3) := by
  intro a0 a1 a2 a3 k
  have ih0 := paymasterlaw02_WideTurns.mono_l k
  unfold paymasterlaw02_WideTurns.f
  repeat' first
      | (with_reducible exact ih0 _ _ _ _ _)
      | (with_reducible exact paymasterlaw02_awake.mono _)
      | (with_reducible exact wide_Cmp.mono _ _ _ _ _)
      | (with_reducible exact LeO.refl _)
      | (with_reducible exact LeO.none _)
      | (with_reducible refine LeO.ite ?_ ?_)
      | (with_reducible refine LeO.bind ?_ (fun _ => ?_))
      | exact ih0 _ _ _ _ _
      | exact paymasterlaw02_awake.mono _
      | exact wide_Cmp.mono _ _ _ _ _
      | exact LeO.none _
      | refine LeO.ite ?_ ?_
      | refine LeO.bind ?_ (fun _ => ?_)
set_option maxHeartbeats 8000000 in
set_option maxRecDepth 100000 in
theorem paymasterlaw02_WideTurns.calls (k : Nat) (a0 : Int) (a1 : Int) (a2 : Int) (a3 : Int) (r : Bool) (w : World) (h : paymasterlaw02_WideTurns.f k a0 a1 a2 a3 = some r) :
    Calls Try.prog 8 #[.int .i64 a0, .int .i64 a1, .int .i64 a2, .int .i64 a3] w fun e w' => e = .returned (.bool r) ∧ Drawn0 w w' := by
  have H : (if a0 = (-9223372036854775808) then (paymasterlaw02_WideTurns.j0 k a0 a1 a2 a3 true) else (if a1 = (-9223372036854775808) then (paymasterlaw02_WideTurns.j0 k a0 a1 a2 a3 true) else (if a2 = (-9223372036854775808) then (paymasterlaw02_WideTurns.j0 k a0 a1 a2 a3 true) else (paymasterlaw02_WideTurns.j0 k a0 a1 a2 a3 (a3 == (-9223372036854775808)))))) = some r := h
  clear h
  have HC5 := Aside0.mk H
  clear H
  go_enter Try.func8, Try.ntmps8
  go_upto_region 1 with (fail)
  go_cut [23] (fun v23 wc => ∃ (kq : Nat) (x23_4 : Bool), v23 = .bool x23_4 ∧ Aside0 (paymasterlaw02_WideTurns.j0 kq a0 a1 a2 a3 x23_4 = some r) ∧ Aside0 (kq ≤ k) ∧ Drawn0 w wc)
  case first =>
    have H := HC5.out
    clear HC5
    by_cases c6 : a0 = (-9223372036854775808)
    · rw [if_pos c6] at H
      have c6b0 : (a0 == (-9223372036854775808)) = true := beq_iff_eq.mpr c6
      have c6b1 : (a0 != (-9223372036854775808)) = false := bne_eq_false_iff_eq.mpr c6
      clear c6
      (first | rw [c6b0] | (simp only [i64_w, i32_w]; rw [c6b0]) | skip)
      have H' := Aside0.mk H
      clear H
      go_wp2
      go_meet
      case rel => exact ⟨_, (true), (by first | rfl | (simp; done) | (simp [*]; done)), H', ⟨by first | omega | exact Nat.le_refl _⟩, by repeat (first | exact Drawn0.refl _ | apply Drawn0.step)⟩
    · rw [if_neg c6] at H
      have c6b0 : (a0 == (-9223372036854775808)) = false := beq_eq_false_iff_ne.mpr c6
      have c6b1 : (a0 != (-9223372036854775808)) = true := bne_iff_ne.mpr c6
      (first | rw [c6b0] | (simp only [i64_w, i32_w]; rw [c6b0]) | skip)
      by_cases c7 : a1 = (-9223372036854775808)
      · rw [if_pos c7] at H
        have c7b0 : (a1 == (-9223372036854775808)) = true := beq_iff_eq.mpr c7
        have c7b1 : (a1 != (-9223372036854775808)) = false := bne_eq_false_iff_eq.mpr c7
        clear c7
        have H' := Aside0.mk H
        clear H
        go_wp2
        go_meet
        case rel => exact ⟨_, (true), (by first | rfl | (simp; done) | (simp [*]; done)), H', ⟨by first | omega | exact Nat.le_refl _⟩, by repeat (first | exact Drawn0.refl _ | apply Drawn0.step)⟩
      · rw [if_neg c7] at H
        have c7b0 : (a1 == (-9223372036854775808)) = false := beq_eq_false_iff_ne.mpr c7
        have c7b1 : (a1 != (-9223372036854775808)) = true := bne_iff_ne.mpr c7
        by_cases c8 : a2 = (-9223372036854775808)
        · rw [if_pos c8] at H
          have c8b0 : (a2 == (-9223372036854775808)) = true := beq_iff_eq.mpr c8
          have c8b1 : (a2 != (-9223372036854775808)) = false := bne_eq_false_iff_eq.mpr c8
          clear c8
          have H' := Aside0.mk H
          clear H
          go_wp2
          go_meet
          case rel => exact ⟨_, (true), (by first | rfl | (simp; done) | (simp [*]; done)), H', ⟨by first | omega | exact Nat.le_refl _⟩, by repeat (first | exact Drawn0.refl _ | apply Drawn0.step)⟩
        · rw [if_neg c8] at H
          have c8b0 : (a2 == (-9223372036854775808)) = false := beq_eq_false_iff_ne.mpr c8
          have c8b1 : (a2 != (-9223372036854775808)) = true := bne_iff_ne.mpr c8
          have H' := Aside0.mk H
          clear H
          go_wp2
          go_meet
          case rel => exact ⟨_, ((a3 == (-9223372036854775808))), (by first | rfl | (simp; done) | (simp [*]; done)), H', ⟨by first | omega | exact Nat.le_refl _⟩, by repeat (first | exact Drawn0.refl _ | apply Drawn0.step)⟩
  case rest =>
    clear HC5
    try clear p2
    try clear c6
    try clear c6b0
    try clear c6b1
    try clear c7
    try clear c7b0
    try clear c7b1
    try clear c8
    try clear c8b0
    try clear c8b1
    obtain ⟨kq, x23_4, rfl, HA, HJ4, ⟨mc4, rfl⟩⟩ := hcut
    cases kq with
    | zero => exact absurd HA.out (by simp [paymasterlaw02_WideTurns.j0])
    | succ kj4 =>
      have H := HA.out
      clear HA
      simp only [paymasterlaw02_WideTurns.j0] at H
      by_cases c9 : x23_4 = true
      · subst c9
        have H1 : ((paymasterlaw02_awake.f kj4).bind fun t302 => (some t302)) = some r := by rw [if_pos rfl] at H; exact H
        clear H
        have H := H1
        clear H1
        replace H := Option.bind_eq_some_iff.mp H
        obtain ⟨t302, A100, H⟩ := H
        replace H : (some t302) = some r := H
        have A10 := Aside0.mk A100
        clear A100
        obtain rfl := Option.some.inj H
        go_wp2_with (first | ((with_reducible refine gate_callee (f := 14) rfl ?_); refine goesL_ (some 24) rfl rfl Try.func14 (by kernel_rfl) rfl #[] rfl (by (try simp only [List.map_toArray, List.map_cons, List.map_nil]); first | done | rfl | (simp only [List.length_drop, List.length_take]; rfl)) ?_; (with_reducible refine (paymasterlaw02_awake.calls kj4  t302 _ A10.out).mono ?_); rintro e w' ⟨rfl, ⟨nd, rfl⟩⟩; refine ⟨_, rfl, ?_⟩))
        go_ret
        exact ⟨by first | rfl | (simp; done) | (simp [*]; done), by repeat (first | exact Drawn0.refl _ | apply Drawn0.step)⟩
      · replace c9 := Bool.eq_false_iff.mpr c9
        subst c9
        have H1 : ((wide_Cmp.f kj4 a0 a1 a2 a3).bind fun t303 => ((wide_Cmp.f kj4 a1 a0 a3 a2).bind fun t304 => (if t304 = t303 then ((wide_Cmp.f kj4 a2 a3 a0 a1).bind fun t305 => (if t305 = (wrap64 (-t303)) then ((wide_Cmp.f kj4 (wrap64 (-a0)) (wrap64 (-a1)) a2 a3).bind fun t306 => (if t306 = t303 then ((wide_Cmp.f kj4 (wrap64 (-a0)) a1 (wrap64 (-a2)) a3).bind fun t307 => (if t307 = (wrap64 (-t303)) then ((wide_Cmp.f kj4 a0 a1 a0 a1).bind fun t308 => (if t308 = 0 then ((paymasterlaw02_awake.f kj4).bind fun t309 => (some t309)) else (none))) else (none))) else (none))) else (none))) else (none)))) = some r := by rw [if_neg (show ¬ (false = true) by decide)] at H; exact H
        clear H
        have H := H1
        clear H1
        replace H := Option.bind_eq_some_iff.mp H
        obtain ⟨t303, A110, H⟩ := H
        replace H : ((wide_Cmp.f kj4 a1 a0 a3 a2).bind fun t304 => (if t304 = t303 then ((wide_Cmp.f kj4 a2 a3 a0 a1).bind fun t305 => (if t305 = (wrap64 (-t303)) then ((wide_Cmp.f kj4 (wrap64 (-a0)) (wrap64 (-a1)) a2 a3).bind fun t306 => (if t306 = t303 then ((wide_Cmp.f kj4 (wrap64 (-a0)) a1 (wrap64 (-a2)) a3).bind fun t307 => (if t307 = (wrap64 (-t303)) then ((wide_Cmp.f kj4 a0 a1 a0 a1).bind fun t308 => (if t308 = 0 then ((paymasterlaw02_awake.f kj4).bind fun t309 => (some t309)) else (none))) else (none))) else (none))) else (none))) else (none))) = some r := H
        have A11 := Aside0.mk A110
        clear A110
        replace H := Option.bind_eq_some_iff.mp H
        obtain ⟨t304, A120, H⟩ := H
        replace H : (if t304 = t303 then ((wide_Cmp.f kj4 a2 a3 a0 a1).bind fun t305 => (if t305 = (wrap64 (-t303)) then ((wide_Cmp.f kj4 (wrap64 (-a0)) (wrap64 (-a1)) a2 a3).bind fun t306 => (if t306 = t303 then ((wide_Cmp.f kj4 (wrap64 (-a0)) a1 (wrap64 (-a2)) a3).bind fun t307 => (if t307 = (wrap64 (-t303)) then ((wide_Cmp.f kj4 a0 a1 a0 a1).bind fun t308 => (if t308 = 0 then ((paymasterlaw02_awake.f kj4).bind fun t309 => (some t309)) else (none))) else (none))) else (none))) else (none))) else (none)) = some r := H
        have A12 := Aside0.mk A120
        clear A120
        by_cases c13 : t304 = t303
        · rw [if_pos c13] at H
          have c13b0 : (t304 == t303) = true := beq_iff_eq.mpr c13
          have c13b1 : (t304 != t303) = false := bne_eq_false_iff_eq.mpr c13
          clear c13
          replace H := Option.bind_eq_some_iff.mp H
          obtain ⟨t305, A140, H⟩ := H
          replace H : (if t305 = (wrap64 (-t303)) then ((wide_Cmp.f kj4 (wrap64 (-a0)) (wrap64 (-a1)) a2 a3).bind fun t306 => (if t306 = t303 then ((wide_Cmp.f kj4 (wrap64 (-a0)) a1 (wrap64 (-a2)) a3).bind fun t307 => (if t307 = (wrap64 (-t303)) then ((wide_Cmp.f kj4 a0 a1 a0 a1).bind fun t308 => (if t308 = 0 then ((paymasterlaw02_awake.f kj4).bind fun t309 => (some t309)) else (none))) else (none))) else (none))) else (none)) = some r := H
          have A14 := Aside0.mk A140
          clear A140
          by_cases c15 : t305 = (wrap64 (-t303))
          · rw [if_pos c15] at H
            have c15b0 : (t305 == (wrap64 (-t303))) = true := beq_iff_eq.mpr c15
            have c15b1 : (t305 != (wrap64 (-t303))) = false := bne_eq_false_iff_eq.mpr c15
            clear c15
            replace H := Option.bind_eq_some_iff.mp H
            obtain ⟨t306, A160, H⟩ := H
            replace H : (if t306 = t303 then ((wide_Cmp.f kj4 (wrap64 (-a0)) a1 (wrap64 (-a2)) a3).bind fun t307 => (if t307 = (wrap64 (-t303)) then ((wide_Cmp.f kj4 a0 a1 a0 a1).bind fun t308 => (if t308 = 0 then ((paymasterlaw02_awake.f kj4).bind fun t309 => (some t309)) else (none))) else (none))) else (none)) = some r := H
            have A16 := Aside0.mk A160
            clear A160
            by_cases c17 : t306 = t303
            · rw [if_pos c17] at H
              have c17b0 : (t306 == t303) = true := beq_iff_eq.mpr c17
              have c17b1 : (t306 != t303) = false := bne_eq_false_iff_eq.mpr c17
              clear c17
              replace H := Option.bind_eq_some_iff.mp H
              obtain ⟨t307, A180, H⟩ := H
              replace H : (if t307 = (wrap64 (-t303)) then ((wide_Cmp.f kj4 a0 a1 a0 a1).bind fun t308 => (if t308 = 0 then ((paymasterlaw02_awake.f kj4).bind fun t309 => (some t309)) else (none))) else (none)) = some r := H
              have A18 := Aside0.mk A180
              clear A180
              by_cases c19 : t307 = (wrap64 (-t303))
              · rw [if_pos c19] at H
                have c19b0 : (t307 == (wrap64 (-t303))) = true := beq_iff_eq.mpr c19
                have c19b1 : (t307 != (wrap64 (-t303))) = false := bne_eq_false_iff_eq.mpr c19
                clear c19
                replace H := Option.bind_eq_some_iff.mp H
                obtain ⟨t308, A200, H⟩ := H
                replace H : (if t308 = 0 then ((paymasterlaw02_awake.f kj4).bind fun t309 => (some t309)) else (none)) = some r := H
                have A20 := Aside0.mk A200
                clear A200
                by_cases c21 : t308 = 0
                · rw [if_pos c21] at H
                  have c21b0 : (t308 == 0) = true := beq_iff_eq.mpr c21
                  have c21b1 : (t308 != 0) = false := bne_eq_false_iff_eq.mpr c21
                  clear c21
                  replace H := Option.bind_eq_some_iff.mp H
                  obtain ⟨t309, A220, H⟩ := H
                  replace H : (some t309) = some r := H
                  have A22 := Aside0.mk A220
                  clear A220
                  obtain rfl := Option.some.inj H
                  go_wp2_with (first | ((with_reducible refine gate_callee (f := 17) rfl ?_); refine goesL_ (some 29) rfl rfl Try.func17 (by kernel_rfl) rfl #[.int .i64 a0, .int .i64 a1, .int .i64 a2, .int .i64 a3] rfl (by (try simp only [List.map_toArray, List.map_cons, List.map_nil]); first | done | rfl | (simp only [List.length_drop, List.length_take]; rfl)) ?_; (with_reducible refine (wide_Cmp.calls kj4 a0 a1 a2 a3 t303 _ A11.out).mono ?_); rintro e w' ⟨rfl, ⟨nd, rfl⟩⟩; refine ⟨_, rfl, ?_⟩) | ((with_reducible refine gate_callee (f := 17) rfl ?_); refine goesL_ (some 34) rfl rfl Try.func17 (by kernel_rfl) rfl #[.int .i64 a1, .int .i64 a0, .int .i64 a3, .int .i64 a2] rfl (by (try simp only [List.map_toArray, List.map_cons, List.map_nil]); first | done | rfl | (simp only [List.length_drop, List.length_take]; rfl)) ?_; (with_reducible refine (wide_Cmp.calls kj4 a1 a0 a3 a2 t304 _ A12.out).mono ?_); rintro e w' ⟨rfl, ⟨nd, rfl⟩⟩; refine ⟨_, rfl, ?_⟩) | (go_at_call 17; (with_reducible refine (wide_Cmp.calls kj4 a2 a3 a0 a1 t305 _ A14.out).mono ?_); rintro e w' ⟨rfl, ⟨nd, rfl⟩⟩) | (go_at_call 17; (with_reducible refine (wide_Cmp.calls kj4 (wrap64 (-a0)) (wrap64 (-a1)) a2 a3 t306 _ A16.out).mono ?_); rintro e w' ⟨rfl, ⟨nd, rfl⟩⟩) | (go_at_call 17; (with_reducible refine (wide_Cmp.calls kj4 (wrap64 (-a0)) a1 (wrap64 (-a2)) a3 t307 _ A18.out).mono ?_); rintro e w' ⟨rfl, ⟨nd, rfl⟩⟩) | (go_at_call 17; (with_reducible refine (wide_Cmp.calls kj4 a0 a1 a0 a1 t308 _ A20.out).mono ?_); rintro e w' ⟨rfl, ⟨nd, rfl⟩⟩) | (go_at_call 14; (with_reducible refine (paymasterlaw02_awake.calls kj4  t309 _ A22.out).mono ?_); rintro e w' ⟨rfl, ⟨nd, rfl⟩⟩))
                  go_ret
                  exact ⟨by first | rfl | (simp; done) | (simp [*]; done), by repeat (first | exact Drawn0.refl _ | apply Drawn0.step)⟩
                · rw [if_neg c21] at H
                  exact absurd H (by simp)
              · rw [if_neg c19] at H
                exact absurd H (by simp)
            · rw [if_neg c17] at H
              exact absurd H (by simp)
          · rw [if_neg c15] at H
            exact absurd H (by simp)
        · rw [if_neg c13] at H
          exact absurd H (by simp)

/-- THE ONE PURE STATEMENT of paymasterlaw02_WideTurns: yours. -/
def paymasterlaw02_WideTurns.Pure : Prop := ∀ (a0 : Int) (a1 : Int) (a2 : Int) (a3 : Int), (Lit.int .i64 a0).wf = true → (Lit.int .i64 a1).wf = true → (Lit.int .i64 a2).wf = true → (Lit.int .i64 a3).wf = true → ∃ k, paymasterlaw02_WideTurns.f k a0 a1 a2 a3 = some true
theorem paymasterlaw02_WideTurns.walk (P : paymasterlaw02_WideTurns.Pure) (a0 : Int) (a1 : Int) (a2 : Int) (a3 : Int) (w : World) (w0 : (Lit.int .i64 a0).wf = true) (w1 : (Lit.int .i64 a1).wf = true) (w2 : (Lit.int .i64 a2).wf = true) (w3 : (Lit.int .i64 a3).wf = true) :
    Calls Try.prog 8 #[.int .i64 a0, .int .i64 a1, .int .i64 a2, .int .i64 a3] w fun e w' => e = .returned (.bool true) ∧ Below w.heap.size w w' := by
  obtain ⟨k, h⟩ := P a0 a1 a2 a3 w0 w1 w2 w3
  refine (paymasterlaw02_WideTurns.calls k a0 a1 a2 a3 true w h).mono ?_
  rintro e w' ⟨rfl, hd⟩
  exact ⟨rfl, hd.below⟩

/-! ### paymasterlaw02_WideLines: function 9 -/
def paymasterlaw02_WideLines.j0 : Nat → Int → Int → Int → Int → Int → Int → Bool → Option (Bool)
  | 0, _, _, _, _, _, _, _ => none
  | k + 1, x16, x17, x18, x19, x20, x21, x71 => if x71 = true then (if x17 = 0 then ((paymasterlaw02_awake.f k).bind fun t316 => (some t316)) else (if x19 = 0 then (none) else ((paymasterlaw02_awake.f k).bind fun t317 => (some t317)))) else (if x16 ≤ x18 then (if x20 = x16 then (if x21 = 0 then ((paymasterlaw02_awake.f k).bind fun t318 => (some t318)) else (none)) else (none)) else (none))
def paymasterlaw02_WideLines.f (k : Nat) (a0 : Int) (a1 : Int) (a2 : Int) (a3 : Int) (a4 : Int) : Option (Bool) := (wide_MulDiv.f k (wrap64 (a0 / 8)) (wrap64 (a2 / 4)) (wrap64 (1 + (wrap64 (a3 / 8)))) (wrap64 (Int.tmod a4 4))).bind fun bt310 => ((wide_MulDiv.f k (wrap64 ((wrap64 (a0 / 8)) + (wrap64 (a1 / 8)))) (wrap64 (a2 / 4)) (wrap64 (1 + (wrap64 (a3 / 8)))) (wrap64 (Int.tmod a4 4))).bind fun bt312 => ((wide_MulDiv.f k (wrap64 (2 * (wrap64 (a0 / 8)))) (wrap64 (a2 / 4)) (wrap64 (2 * (wrap64 (1 + (wrap64 (a3 / 8)))))) (wrap64 (Int.tmod a4 4))).bind fun bt314 => (if bt310.2 = 0 then (paymasterlaw02_WideLines.j0 k bt310.1 bt310.2 bt312.1 bt312.2 bt314.1 bt314.2 (bt312.2 != 0)) else (paymasterlaw02_WideLines.j0 k bt310.1 bt310.2 bt312.1 bt312.2 bt314.1 bt314.2 true))))
theorem paymasterlaw02_WideLines.mono_l : ∀ k, (∀ y0 y1 y2 y3 y4 y5 y6, LeO (paymasterlaw02_WideLines.j0 k y0 y1 y2 y3 y4 y5 y6) (paymasterlaw02_WideLines.j0 (k + 1) y0 y1 y2 y3 y4 y5 y6))
  | 0 => fun _ _ _ _ _ _ _ r h => by simp [paymasterlaw02_WideLines.j0] at h
  | k + 1 => by
    have ih0 := paymasterlaw02_WideLines.mono_l k
    · intro y0 y1 y2 y3 y4 y5 y6
      unfold paymasterlaw02_WideLines.j0
      repeat' first
      | (with_reducible exact ih0 _ _ _ _ _ _ _)
      | (with_reducible exact paymasterlaw02_awake.mono _)
      | (with_reducible exact wide_MulDiv.mono _ _ _ _ _)
      | (with_reducible exact LeO.refl _)
      | (with_reducible exact LeO.none _)
      | (with_reducible refine LeO.ite ?_ ?_)
      | (with_reducible refine LeO.bind ?_ (fun _ => ?_))
      | exact ih0 _ _ _ _ _ _ _
      | exact paymasterlaw02_awake.mono _
      | exact wide_MulDiv.mono _ _ _ _ _
      | exact LeO.none _
      | refine LeO.ite ?_ ?_
      | refine LeO.bind ?_ (fun _ => ?_)
theorem paymasterlaw02_WideLines.mono : ∀ a0 a1 a2 a3 a4 k, LeO (paymasterlaw02_WideLines.f k a0 a1 a2 a3 a4) (paymasterlaw02_WideLines.f (k + 1) a0 a1 a2 a3 a4) := by
  intro a0 a1 a2 a3 a4 k
  have ih0 := paymasterlaw02_WideLines.mono_l k
  unfold paymasterlaw02_WideLines.f
  repeat' first
      | (with_reducible exact ih0 _ _ _ _ _ _ _)
      | (with_reducible exact paymasterlaw02_awake.mono _)
      | (with_reducible exact wide_MulDiv.mono _ _ _ _ _)
      | (with_reducible exact LeO.refl _)
      | (with_reducible exact LeO.none _)
      | (with_reducible refine LeO.ite ?_ ?_)
      | (with_reducible refine LeO.bind ?_ (fun _ => ?_))
      | exact ih0 _ _ _ _ _ _ _
      | exact paymasterlaw02_awake.mono _
      | exact wide_MulDiv.mono _ _ _ _ _
      | exact LeO.none _
      | refine LeO.ite ?_ ?_
      | refine LeO.bind ?_ (fun _ => ?_)
set_option maxHeartbeats 8000000 in
set_option maxRecDepth 100000 in
theorem paymasterlaw02_WideLines.calls (k : Nat) (a0 : Int) (a1 : Int) (a2 : Int) (a3 : Int) (a4 : Int) (r : Bool) (w : World) (h : paymasterlaw02_WideLines.f k a0 a1 a2 a3 a4 = some r) :
    Calls Try.prog 9 #[.int .u64 a0, .int .u64 a1, .int .u64 a2, .int .u64 a3, .int .u8 a4] w fun e w' => e = .returned (.bool r) ∧ Drawn0 w w' := by
  have H : ((wide_MulDiv.f k (wrap64 (a0 / 8)) (wrap64 (a2 / 4)) (wrap64 (1 + (wrap64 (a3 / 8)))) (wrap64 (Int.tmod a4 4))).bind fun bt310 => ((wide_MulDiv.f k (wrap64 ((wrap64 (a0 / 8)) + (wrap64 (a1 / 8)))) (wrap64 (a2 / 4)) (wrap64 (1 + (wrap64 (a3 / 8)))) (wrap64 (Int.tmod a4 4))).bind fun bt312 => ((wide_MulDiv.f k (wrap64 (2 * (wrap64 (a0 / 8)))) (wrap64 (a2 / 4)) (wrap64 (2 * (wrap64 (1 + (wrap64 (a3 / 8)))))) (wrap64 (Int.tmod a4 4))).bind fun bt314 => (if bt310.2 = 0 then (paymasterlaw02_WideLines.j0 k bt310.1 bt310.2 bt312.1 bt312.2 bt314.1 bt314.2 (bt312.2 != 0)) else (paymasterlaw02_WideLines.j0 k bt310.1 bt310.2 bt312.1 bt312.2 bt314.1 bt314.2 true))))) = some r := h
  clear h
  replace H := Option.bind_eq_some_iff.mp H
  obtain ⟨⟨t310, t311⟩, A60, H⟩ := H
  replace H : ((wide_MulDiv.f k (wrap64 ((wrap64 (a0 / 8)) + (wrap64 (a1 / 8)))) (wrap64 (a2 / 4)) (wrap64 (1 + (wrap64 (a3 / 8)))) (wrap64 (Int.tmod a4 4))).bind fun bt312 => ((wide_MulDiv.f k (wrap64 (2 * (wrap64 (a0 / 8)))) (wrap64 (a2 / 4)) (wrap64 (2 * (wrap64 (1 + (wrap64 (a3 / 8)))))) (wrap64 (Int.tmod a4 4))).bind fun bt314 => (if t311 = 0 then (paymasterlaw02_WideLines.j0 k t310 t311 bt312.1 bt312.2 bt314.1 bt314.2 (bt312.2 != 0)) else (paymasterlaw02_WideLines.j0 k t310 t311 bt312.1 bt312.2 bt314.1 bt314.2 true)))) = some r := H
  have A6 := Aside0.mk A60
  clear A60
  replace H := Option.bind_eq_some_iff.mp H
  obtain ⟨⟨t312, t313⟩, A70, H⟩ := H
  replace H : ((wide_MulDiv.f k (wrap64 (2 * (wrap64 (a0 / 8)))) (wrap64 (a2 / 4)) (wrap64 (2 * (wrap64 (1 + (wrap64 (a3 / 8)))))) (wrap64 (Int.tmod a4 4))).bind fun bt314 => (if t311 = 0 then (paymasterlaw02_WideLines.j0 k t310 t311 t312 t313 bt314.1 bt314.2 (t313 != 0)) else (paymasterlaw02_WideLines.j0 k t310 t311 t312 t313 bt314.1 bt314.2 true))) = some r := H
  have A7 := Aside0.mk A70
  clear A70
  replace H := Option.bind_eq_some_iff.mp H
  obtain ⟨⟨t314, t315⟩, A80, H⟩ := H
  replace H : (if t311 = 0 then (paymasterlaw02_WideLines.j0 k t310 t311 t312 t313 t314 t315 (t313 != 0)) else (paymasterlaw02_WideLines.j0 k t310 t311 t312 t313 t314 t315 true)) = some r := H
  have A8 := Aside0.mk A80
  clear A80
  have HC9 := Aside0.mk H
  clear H
  go_enter Try.func9, Try.ntmps9
  go_upto_region 7 with (first | ((with_reducible refine gate_callee (f := 11) rfl ?_); refine goesL_ (some 45) rfl rfl Try.func11 (by kernel_rfl) rfl #[.int .i64 (wrap64 (a0 / 8)), .int .i64 (wrap64 (a2 / 4)), .int .i64 (wrap64 (1 + (wrap64 (a3 / 8)))), .int .i64 (wrap64 (Int.tmod a4 4))] rfl (by (try simp only [List.map_toArray, List.map_cons, List.map_nil]); first | done | rfl | (simp only [List.length_drop, List.length_take]; rfl)) ?_; (with_reducible refine (wide_MulDiv.calls k (wrap64 (a0 / 8)) (wrap64 (a2 / 4)) (wrap64 (1 + (wrap64 (a3 / 8)))) (wrap64 (Int.tmod a4 4)) t310 t311 _ A6.out).mono ?_); rintro e w' ⟨rfl, ⟨nd, rfl⟩⟩; refine ⟨_, rfl, ?_⟩) | ((with_reducible refine gate_callee (f := 11) rfl ?_); refine goesL_ (some 53) rfl rfl Try.func11 (by kernel_rfl) rfl #[.int .i64 (wrap64 ((wrap64 (a0 / 8)) + (wrap64 (a1 / 8)))), .int .i64 (wrap64 (a2 / 4)), .int .i64 (wrap64 (1 + (wrap64 (a3 / 8)))), .int .i64 (wrap64 (Int.tmod a4 4))] rfl (by (try simp only [List.map_toArray, List.map_cons, List.map_nil]); first | done | rfl | (simp only [List.length_drop, List.length_take]; rfl)) ?_; (with_reducible refine (wide_MulDiv.calls k (wrap64 ((wrap64 (a0 / 8)) + (wrap64 (a1 / 8)))) (wrap64 (a2 / 4)) (wrap64 (1 + (wrap64 (a3 / 8)))) (wrap64 (Int.tmod a4 4)) t312 t313 _ A7.out).mono ?_); rintro e w' ⟨rfl, ⟨nd, rfl⟩⟩; refine ⟨_, rfl, ?_⟩) | ((with_reducible refine gate_callee (f := 11) rfl ?_); refine goesL_ (some 63) rfl rfl Try.func11 (by kernel_rfl) rfl #[.int .i64 (wrap64 (2 * (wrap64 (a0 / 8)))), .int .i64 (wrap64 (a2 / 4)), .int .i64 (wrap64 (2 * (wrap64 (1 + (wrap64 (a3 / 8)))))), .int .i64 (wrap64 (Int.tmod a4 4))] rfl (by (try simp only [List.map_toArray, List.map_cons, List.map_nil]); first | done | rfl | (simp only [List.length_drop, List.length_take]; rfl)) ?_; (with_reducible refine (wide_MulDiv.calls k (wrap64 (2 * (wrap64 (a0 / 8)))) (wrap64 (a2 / 4)) (wrap64 (2 * (wrap64 (1 + (wrap64 (a3 / 8)))))) (wrap64 (Int.tmod a4 4)) t314 t315 _ A8.out).mono ?_); rintro e w' ⟨rfl, ⟨nd, rfl⟩⟩; refine ⟨_, rfl, ?_⟩))
  (try simp only [Act.put, List.setIfInBounds_toArray, List.set_cons_zero, List.set_cons_succ])
  go_cut [71] (fun v71 wc => ∃ (kq : Nat) (x71_8 : Bool), v71 = .bool x71_8 ∧ Aside0 (paymasterlaw02_WideLines.j0 kq t310 t311 t312 t313 t314 t315 x71_8 = some r) ∧ Aside0 (kq ≤ k) ∧ Drawn0 w wc)
  case first =>
    have H := HC9.out
    clear HC9
    by_cases c10 : t311 = 0
    · rw [if_pos c10] at H
      have c10b0 : (t311 == 0) = true := beq_iff_eq.mpr c10
      have c10b1 : (t311 != 0) = false := bne_eq_false_iff_eq.mpr c10
      clear c10
      (first | rw [c10b0] | (simp only [i64_w, i32_w]; rw [c10b0]) | skip)
      have H' := Aside0.mk H
      clear H
      go_wp2
      go_meet
      case rel => exact ⟨_, ((t313 != 0)), (by first | rfl | (simp; done) | (simp [*]; done)), H', ⟨by first | omega | exact Nat.le_refl _⟩, by repeat (first | exact Drawn0.refl _ | apply Drawn0.step)⟩
    · rw [if_neg c10] at H
      have c10b0 : (t311 == 0) = false := beq_eq_false_iff_ne.mpr c10
      have c10b1 : (t311 != 0) = true := bne_iff_ne.mpr c10
      (first | rw [c10b0] | (simp only [i64_w, i32_w]; rw [c10b0]) | skip)
      have H' := Aside0.mk H
      clear H
      go_wp2
      go_meet
      case rel => exact ⟨_, (true), (by first | rfl | (simp; done) | (simp [*]; done)), H', ⟨by first | omega | exact Nat.le_refl _⟩, by repeat (first | exact Drawn0.refl _ | apply Drawn0.step)⟩
  case rest =>
    clear HC9
    try clear c1
    try clear p2
    try clear p6
    try clear c9
    try clear c10
    try clear c10b0
    try clear c10b1
    obtain ⟨kq, x71_8, rfl, HA, HJ8, ⟨mc8, rfl⟩⟩ := hcut
    cases kq with
    | zero => exact absurd HA.out (by simp [paymasterlaw02_WideLines.j0])
    | succ kj8 =>
      have H := HA.out
      clear HA
      simp only [paymasterlaw02_WideLines.j0] at H
      by_cases c11 : x71_8 = true
      · subst c11
        have H1 : (if t311 = 0 then ((paymasterlaw02_awake.f kj8).bind fun t316 => (some t316)) else (if t313 = 0 then (none) else ((paymasterlaw02_awake.f kj8).bind fun t317 => (some t317)))) = some r := by rw [if_pos rfl] at H; exact H
        clear H
        have H := H1
        clear H1
        by_cases c12 : t311 = 0
        · rw [if_pos c12] at H
          have c12b0 : (t311 == 0) = true := beq_iff_eq.mpr c12
          have c12b1 : (t311 != 0) = false := bne_eq_false_iff_eq.mpr c12
          clear c12
          replace H := Option.bind_eq_some_iff.mp H
          obtain ⟨t316, A130, H⟩ := H
          replace H : (some t316) = some r := H
          have A13 := Aside0.mk A130
          clear A130
          obtain rfl := Option.some.inj H
          go_wp2_with (first | (go_at_call 14; (with_reducible refine (paymasterlaw02_awake.calls kj8  t316 _ A13.out).mono ?_); rintro e w' ⟨rfl, ⟨nd, rfl⟩⟩))
          go_ret
          exact ⟨by first | rfl | (simp; done) | (simp [*]; done), by repeat (first | exact Drawn0.refl _ | apply Drawn0.step)⟩
        · rw [if_neg c12] at H
          have c12b0 : (t311 == 0) = false := beq_eq_false_iff_ne.mpr c12
          have c12b1 : (t311 != 0) = true := bne_iff_ne.mpr c12
          by_cases c14 : t313 = 0
          · rw [if_pos c14] at H
            exact absurd H (by simp)
          · rw [if_neg c14] at H
            have c14b0 : (t313 == 0) = false := beq_eq_false_iff_ne.mpr c14
            have c14b1 : (t313 != 0) = true := bne_iff_ne.mpr c14
            replace H := Option.bind_eq_some_iff.mp H
            obtain ⟨t317, A150, H⟩ := H
            replace H : (some t317) = some r := H
            have A15 := Aside0.mk A150
            clear A150
            obtain rfl := Option.some.inj H
            go_wp2_with (first | (go_at_call 14; (with_reducible refine (paymasterlaw02_awake.calls kj8  t317 _ A15.out).mono ?_); rintro e w' ⟨rfl, ⟨nd, rfl⟩⟩))
            go_ret
            exact ⟨by first | rfl | (simp; done) | (simp [*]; done), by repeat (first | exact Drawn0.refl _ | apply Drawn0.step)⟩
      · replace c11 := Bool.eq_false_iff.mpr c11
        subst c11
        have H1 : (if t310 ≤ t312 then (if t314 = t310 then (if t315 = 0 then ((paymasterlaw02_awake.f kj8).bind fun t318 => (some t318)) else (none)) else (none)) else (none)) = some r := by rw [if_neg (show ¬ (false = true) by decide)] at H; exact H
        clear H
        have H := H1
        clear H1
        by_cases c16 : t310 ≤ t312
        · rw [if_pos c16] at H
          have c16b0 : decide (t310 ≤ t312) = true := decide_eq_true c16
          clear c16
          by_cases c17 : t314 = t310
          · rw [if_pos c17] at H
            have c17b0 : (t314 == t310) = true := beq_iff_eq.mpr c17
            have c17b1 : (t314 != t310) = false := bne_eq_false_iff_eq.mpr c17
            clear c17
            by_cases c18 : t315 = 0
            · rw [if_pos c18] at H
              have c18b0 : (t315 == 0) = true := beq_iff_eq.mpr c18
              have c18b1 : (t315 != 0) = false := bne_eq_false_iff_eq.mpr c18
              clear c18
              replace H := Option.bind_eq_some_iff.mp H
              obtain ⟨t318, A190, H⟩ := H
              replace H : (some t318) = some r := H
              have A19 := Aside0.mk A190
              clear A190
              obtain rfl := Option.some.inj H
              go_wp2_with (first | (go_at_call 14; (with_reducible refine (paymasterlaw02_awake.calls kj8  t318 _ A19.out).mono ?_); rintro e w' ⟨rfl, ⟨nd, rfl⟩⟩))
              go_ret
              exact ⟨by first | rfl | (simp; done) | (simp [*]; done), by repeat (first | exact Drawn0.refl _ | apply Drawn0.step)⟩
            · rw [if_neg c18] at H
              exact absurd H (by simp)
          · rw [if_neg c17] at H
            exact absurd H (by simp)
        · rw [if_neg c16] at H
          exact absurd H (by simp)

/-- THE ONE PURE STATEMENT of paymasterlaw02_WideLines: yours. -/
def paymasterlaw02_WideLines.Pure : Prop := ∀ (a0 : Int) (a1 : Int) (a2 : Int) (a3 : Int) (a4 : Int), (Lit.int .u64 a0).wf = true → (Lit.int .u64 a1).wf = true → (Lit.int .u64 a2).wf = true → (Lit.int .u64 a3).wf = true → (Lit.int .u8 a4).wf = true → ∃ k, paymasterlaw02_WideLines.f k a0 a1 a2 a3 a4 = some true
theorem paymasterlaw02_WideLines.walk (P : paymasterlaw02_WideLines.Pure) (a0 : Int) (a1 : Int) (a2 : Int) (a3 : Int) (a4 : Int) (w : World) (w0 : (Lit.int .u64 a0).wf = true) (w1 : (Lit.int .u64 a1).wf = true) (w2 : (Lit.int .u64 a2).wf = true) (w3 : (Lit.int .u64 a3).wf = true) (w4 : (Lit.int .u8 a4).wf = true) :
    Calls Try.prog 9 #[.int .u64 a0, .int .u64 a1, .int .u64 a2, .int .u64 a3, .int .u8 a4] w fun e w' => e = .returned (.bool true) ∧ Below w.heap.size w w' := by
  obtain ⟨k, h⟩ := P a0 a1 a2 a3 a4 w0 w1 w2 w3 w4
  refine (paymasterlaw02_WideLines.calls k a0 a1 a2 a3 a4 true w h).mono ?_
  rintro e w' ⟨rfl, hd⟩
  exact ⟨rfl, hd.below⟩

end Go.Proofs.Ytdochofgoobicaa.PA
