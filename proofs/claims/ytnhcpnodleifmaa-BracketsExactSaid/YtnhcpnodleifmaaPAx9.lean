/- Contracts of the functions of the given program: written by wip/pmprint.py, a program of this session, which runs the print of the kit over altered functions. -/
import Derived.Test.YtnhcpnodleifmaaPAx0
import Derived.Test.YtnhcpnodleifmaaPAx1
import Derived.Test.YtnhcpnodleifmaaPAx3
import Derived.Test.YtnhcpnodleifmaaPAx4
import Derived.Test.YtnhcpnodleifmaaPAx8
namespace Go.Proofs.Ytnhcpnodleifmaa.PA
open Go.RowKit Go.Proofs.YtnhcpnodleifmaaW.PrintWords Go.Proofs.YtnhcpnodleifmaaW.PrintLast Go.Proofs.YtnhcpnodleifmaaW.PrintMore
attribute [local go_sem] max2_int min2_int max_two min_two max_three min_three max_four min_four   -- for this text's walks alone
set_option linter.unusedVariables false
set_option linter.unusedSimpArgs false

/-! ### paymasterlaw05_BracketsExact: function 3 -/
mutual
def paymasterlaw05_BracketsExact.j0 : Nat → List (S34) → Int → List Int → Int → Int → Int → Bool → Bool → Option (Bool)
  | 0, _, _, _, _, _, _, _, _ => none
  | k + 1, x0, x1, x5, x6, x7, x9, x11, x53 => if x53 = true then (none) else (if x11 = true then ((paymasterref01_Right.f x1).bind fun t293 => (paymasterlaw05_BracketsExact.j1 k x0 x1 x5 x6 x7 x9 x11 (!t293))) else (paymasterlaw05_BracketsExact.j1 k x0 x1 x5 x6 x7 x9 x11 true))
def paymasterlaw05_BracketsExact.j1 : Nat → List (S34) → Int → List Int → Int → Int → Int → Bool → Bool → Option (Bool)
  | 0, _, _, _, _, _, _, _, _ => none
  | k + 1, x0, x1, x5, x6, x7, x9, x11, x60 => if x60 = true then (if x11 = true then (if (x5.length : Int) = 0 then (if x7 = 0 then (if x9 = 0 then (if x6 = 3 then ((paymasterlaw05_awake.f k).bind fun t294 => (some t294)) else (none)) else (none)) else (none)) else (none)) else (if (x5.length : Int) = 0 then (if x7 = 0 then (if x9 = 0 then (if x6 = 1 then ((paymasterlaw05_awake.f k).bind fun t295 => (some t295)) else (none)) else (none)) else (none)) else (none))) else (if (x5.length : Int) = (x0.length : Int) then (if x6 = 0 then ((paymasterref05_Tax.f k x0 x1).bind fun t296 => (paymasterlaw05_BracketsExact.j2 k x0 x1 x5 x9 (x7 != t296))) else (paymasterlaw05_BracketsExact.j2 k x0 x1 x5 x9 true)) else (paymasterlaw05_BracketsExact.j2 k x0 x1 x5 x9 true))
def paymasterlaw05_BracketsExact.j2 : Nat → List (S34) → Int → List Int → Int → Bool → Option (Bool)
  | 0, _, _, _, _, _ => none
  | k + 1, x0, x1, x5, x9, x96 => if x96 = true then (none) else (paymasterlaw05_BracketsExact.l0 k x0 x1 x5 x9 0 x0 (x0.length : Int) 0)
def paymasterlaw05_BracketsExact.l0 : Nat → List (S34) → Int → List Int → Int → Int → List (S34) → Int → Int → Option (Bool)
  | 0, _, _, _, _, _, _, _, _ => none
  | k + 1, x0, x1, x5, x9, x13, x97, x98, x99 => if x99 < x98 then (if 0 ≤ x99 then (if x99 < (x97.length : Int) then (if x99 < (x5.length : Int) then ((paymasterref05_Part.f x0 x99 x1).bind fun t301 => (if (rd x5 x99) = t301 then (if x1 > ((rd_T34 x97 x99).f0) then (paymasterlaw05_BracketsExact.l0 k x0 x1 x5 x9 ((rd_T34 x97 x99).f1) x97 x98 (wrap64 (x99 + 1))) else (paymasterlaw05_BracketsExact.l0 k x0 x1 x5 x9 x13 x97 x98 (wrap64 (x99 + 1)))) else (none))) else (none)) else (none)) else (none)) else (if x9 = x13 then ((paymasterlaw05_awake.f k).bind fun t297 => (some t297)) else (none))
end
def paymasterlaw05_BracketsExact.f (k : Nat) (l0 : List (S34)) (a1 : Int) : Option (Bool) := if (l0.length : Int) > 40 then ((paymasterlaw05_awake.f k).bind fun t282 => (some t282)) else ((brackets_Parts.f k l0 a1).bind fun bt283 => ((brackets_Tax.f k l0 a1).bind fun bt287 => ((brackets_Rate.f k l0 a1).bind fun bt289 => ((paymasterref05_Right.f k l0).bind fun t291 => ((brackets_Right.f k l0).bind fun t292 => (if (t292 != t291) = true then (paymasterlaw05_BracketsExact.j0 k l0 a1 bt283.1 bt283.2 bt287.1 bt289.1 t291 true) else (if bt287.2 = bt283.2 then (paymasterlaw05_BracketsExact.j0 k l0 a1 bt283.1 bt283.2 bt287.1 bt289.1 t291 (bt289.2 != bt283.2)) else (paymasterlaw05_BracketsExact.j0 k l0 a1 bt283.1 bt283.2 bt287.1 bt289.1 t291 true))))))))
theorem paymasterlaw05_BracketsExact.mono_l : ∀ k, (∀ y0 y1 y2 y3 y4 y5 y6 y7, LeO (paymasterlaw05_BracketsExact.j0 k y0 y1 y2 y3 y4 y5 y6 y7) (paymasterlaw05_BracketsExact.j0 (k + 1) y0 y1 y2 y3 y4 y5 y6 y7)) ∧ (∀ y0 y1 y2 y3 y4 y5 y6 y7, LeO (paymasterlaw05_BracketsExact.j1 k y0 y1 y2 y3 y4 y5 y6 y7) (paymasterlaw05_BracketsExact.j1 (k + 1) y0 y1 y2 y3 y4 y5 y6 y7)) ∧ (∀ y0 y1 y2 y3 y4, LeO (paymasterlaw05_BracketsExact.j2 k y0 y1 y2 y3 y4) (paymasterlaw05_BracketsExact.j2 (k + 1) y0 y1 y2 y3 y4)) ∧ (∀ y0 y1 y2 y3 y4 y5 y6 y7, LeO (paymasterlaw05_BracketsExact.l0 k y0 y1 y2 y3 y4 y5 y6 y7) (paymasterlaw05_BracketsExact.l0 (k + 1) y0 y1 y2 y3 y4 y5 y6 y7))
  | 0 => ⟨fun _ _ _ _ _ _ _ _ r h => by simp [paymasterlaw05_BracketsExact.j0] at h, fun _ _ _ _ _ _ _ _ r h => by simp [paymasterlaw05_BracketsExact.j1] at h, fun _ _ _ _ _ r h => by simp [paymasterlaw05_BracketsExact.j2] at h, fun _ _ _ _ _ _ _ _ r h => by simp [paymasterlaw05_BracketsExact.l0] at h⟩
  | k + 1 => by
    obtain ⟨ih0, ih1, ih2, ih3⟩ := paymasterlaw05_BracketsExact.mono_l k
    refine ⟨?_, ?_, ?_, ?_⟩
    · intro y0 y1 y2 y3 y4 y5 y6 y7
      unfold paymasterlaw05_BracketsExact.j0
      repeat' first
      | (with_reducible exact ih0 _ _ _ _ _ _ _ _)
      | (with_reducible exact ih1 _ _ _ _ _ _ _ _)
      | (with_reducible exact ih2 _ _ _ _ _)
      | (with_reducible exact ih3 _ _ _ _ _ _ _ _)
      | (with_reducible exact brackets_Parts.mono _ _ _)
      | (with_reducible exact brackets_Rate.mono _ _ _)
      | (with_reducible exact brackets_Right.mono _ _)
      | (with_reducible exact brackets_Tax.mono _ _ _)
      | (with_reducible exact paymasterlaw05_awake.mono _)
      | (with_reducible exact paymasterref05_Right.mono _ _)
      | (with_reducible exact paymasterref05_Tax.mono _ _ _)
      | (with_reducible exact LeO.refl _)
      | (with_reducible exact LeO.none _)
      | (with_reducible refine LeO.ite ?_ ?_)
      | (with_reducible refine LeO.bind ?_ (fun _ => ?_))
      | exact ih0 _ _ _ _ _ _ _ _
      | exact ih1 _ _ _ _ _ _ _ _
      | exact ih2 _ _ _ _ _
      | exact ih3 _ _ _ _ _ _ _ _
      | exact brackets_Parts.mono _ _ _
      | exact brackets_Rate.mono _ _ _
      | exact brackets_Right.mono _ _
      | exact brackets_Tax.mono _ _ _
      | exact paymasterlaw05_awake.mono _
      | exact paymasterref05_Right.mono _ _
      | exact paymasterref05_Tax.mono _ _ _
      | exact LeO.none _
      | refine LeO.ite ?_ ?_
      | refine LeO.bind ?_ (fun _ => ?_)
    · intro y0 y1 y2 y3 y4 y5 y6 y7
      unfold paymasterlaw05_BracketsExact.j1
      repeat' first
      | (with_reducible exact ih0 _ _ _ _ _ _ _ _)
      | (with_reducible exact ih1 _ _ _ _ _ _ _ _)
      | (with_reducible exact ih2 _ _ _ _ _)
      | (with_reducible exact ih3 _ _ _ _ _ _ _ _)
      | (with_reducible exact brackets_Parts.mono _ _ _)
      | (with_reducible exact brackets_Rate.mono _ _ _)
      | (with_reducible exact brackets_Right.mono _ _)
      | (with_reducible exact brackets_Tax.mono _ _ _)
      | (with_reducible exact paymasterlaw05_awake.mono _)
      | (with_reducible exact paymasterref05_Right.mono _ _)
      | (with_reducible exact paymasterref05_Tax.mono _ _ _)
      | (with_reducible exact LeO.refl _)
      | (with_reducible exact LeO.none _)
      | (with_reducible refine LeO.ite ?_ ?_)
      | (with_reducible refine LeO.bind ?_ (fun _ => ?_))
      | exact ih0 _ _ _ _ _ _ _ _
      | exact ih1 _ _ _ _ _ _ _ _
      | exact ih2 _ _ _ _ _
      | exact ih3 _ _ _ _ _ _ _ _
      | exact brackets_Parts.mono _ _ _
      | exact brackets_Rate.mono _ _ _
      | exact brackets_Right.mono _ _
      | exact brackets_Tax.mono _ _ _
      | exact paymasterlaw05_awake.mono _
      | exact paymasterref05_Right.mono _ _
      | exact paymasterref05_Tax.mono _ _ _
      | exact LeO.none _
      | refine LeO.ite ?_ ?_
      | refine LeO.bind ?_ (fun _ => ?_)
    · intro y0 y1 y2 y3 y4
      unfold paymasterlaw05_BracketsExact.j2
      repeat' first
      | (with_reducible exact ih0 _ _ _ _ _ _ _ _)
      | (with_reducible exact ih1 _ _ _ _ _ _ _ _)
      | (with_reducible exact ih2 _ _ _ _ _)
      | (with_reducible exact ih3 _ _ _ _ _ _ _ _)
      | (with_reducible exact brackets_Parts.mono _ _ _)
      | (with_reducible exact brackets_Rate.mono _ _ _)
      | (with_reducible exact brackets_Right.mono _ _)
      | (with_reducible exact brackets_Tax.mono _ _ _)
      | (with_reducible exact paymasterlaw05_awake.mono _)
      | (with_reducible exact paymasterref05_Right.mono _ _)
      | (with_reducible exact paymasterref05_Tax.mono _ _ _)
      | (with_reducible exact LeO.refl _)
      | (with_reducible exact LeO.none _)
      | (with_reducible refine LeO.ite ?_ ?_)
      | (with_reducible refine LeO.bind ?_ (fun _ => ?_))
      | exact ih0 _ _ _ _ _ _ _ _
      | exact ih1 _ _ _ _ _ _ _ _
      | exact ih2 _ _ _ _ _
      | exact ih3 _ _ _ _ _ _ _ _
      | exact brackets_Parts.mono _ _ _
      | exact brackets_Rate.mono _ _ _
      | exact brackets_Right.mono _ _
      | exact brackets_Tax.mono _ _ _
      | exact paymasterlaw05_awake.mono _
      | exact paymasterref05_Right.mono _ _
      | exact paymasterref05_Tax.mono _ _ _
      | exact LeO.none _
      | refine LeO.ite ?_ ?_
      | refine LeO.bind ?_ (fun _ => ?_)
    · intro y0 y1 y2 y3 y4 y5 y6 y7
      unfold paymasterlaw05_BracketsExact.l0
      repeat' first
      | (with_reducible exact ih0 _ _ _ _ _ _ _ _)
      | (with_reducible exact ih1 _ _ _ _ _ _ _ _)
      | (with_reducible exact ih2 _ _ _ _ _)
      | (with_reducible exact ih3 _ _ _ _ _ _ _ _)
      | (with_reducible exact brackets_Parts.mono _ _ _)
      | (with_reducible exact brackets_Rate.mono _ _ _)
      | (with_reducible exact brackets_Right.mono _ _)
      | (with_reducible exact brackets_Tax.mono _ _ _)
      | (with_reducible exact paymasterlaw05_awake.mono _)
      | (with_reducible exact paymasterref05_Right.mono _ _)
      | (with_reducible exact paymasterref05_Tax.mono _ _ _)
      | (with_reducible exact LeO.refl _)
      | (with_reducible exact LeO.none _)
      | (with_reducible refine LeO.ite ?_ ?_)
      | (with_reducible refine LeO.bind ?_ (fun _ => ?_))
      | exact ih0 _ _ _ _ _ _ _ _
      | exact ih1 _ _ _ _ _ _ _ _
      | exact ih2 _ _ _ _ _
      | exact ih3 _ _ _ _ _ _ _ _
      | exact brackets_Parts.mono _ _ _
      | exact brackets_Rate.mono _ _ _
      | exact brackets_Right.mono _ _
      | exact brackets_Tax.mono _ _ _
      | exact paymasterlaw05_awake.mono _
      | exact paymasterref05_Right.mono _ _
      | exact paymasterref05_Tax.mono _ _ _
      | exact LeO.none _
      | refine LeO.ite ?_ ?_
      | refine LeO.bind ?_ (fun _ => ?_)
theorem paymasterlaw05_BracketsExact.mono : ∀ a0 a1 k, LeO (paymasterlaw05_BracketsExact.f k a0 a1) (paymasterlaw05_BracketsExact.f (k + 1) a0 a1) := by
  intro a0 a1 k
  obtain ⟨ih0, ih1, ih2, ih3⟩ := paymasterlaw05_BracketsExact.mono_l k
  unfold paymasterlaw05_BracketsExact.f
  repeat' first
      | (with_reducible exact ih0 _ _ _ _ _ _ _ _)
      | (with_reducible exact ih1 _ _ _ _ _ _ _ _)
      | (with_reducible exact ih2 _ _ _ _ _)
      | (with_reducible exact ih3 _ _ _ _ _ _ _ _)
      | (with_reducible exact brackets_Parts.mono _ _ _)
      | (with_reducible exact brackets_Rate.mono _ _ _)
      | (with_reducible exact brackets_Right.mono _ _)
      | (with_reducible exact brackets_Tax.mono _ _ _)
      | (with_reducible exact paymasterlaw05_awake.mono _)
      | (with_reducible exact paymasterref05_Right.mono _ _)
      | (with_reducible exact paymasterref05_Tax.mono _ _ _)
      | (with_reducible exact LeO.refl _)
      | (with_reducible exact LeO.none _)
      | (with_reducible refine LeO.ite ?_ ?_)
      | (with_reducible refine LeO.bind ?_ (fun _ => ?_))
      | exact ih0 _ _ _ _ _ _ _ _
      | exact ih1 _ _ _ _ _ _ _ _
      | exact ih2 _ _ _ _ _
      | exact ih3 _ _ _ _ _ _ _ _
      | exact brackets_Parts.mono _ _ _
      | exact brackets_Rate.mono _ _ _
      | exact brackets_Right.mono _ _
      | exact brackets_Tax.mono _ _ _
      | exact paymasterlaw05_awake.mono _
      | exact paymasterref05_Right.mono _ _
      | exact paymasterref05_Tax.mono _ _ _
      | exact LeO.none _
      | refine LeO.ite ?_ ?_
      | refine LeO.bind ?_ (fun _ => ?_)
set_option maxHeartbeats 8000000 in
set_option maxRecDepth 100000 in
theorem paymasterlaw05_BracketsExact.calls (k : Nat) (A0 : Option Addr) (c0 : Nat) (l0 : List (S34)) (a1 : Int) (r : Bool) (w : World) (hr0 : Kd.C k34 w A0 l0.length l0) (hc0 : l0.length ≤ c0) (h : paymasterlaw05_BracketsExact.f k l0 a1 = some r) :
    Calls Try.prog 3 #[.slice A0 l0.length c0, .int .i64 a1] w fun e w' => e = .returned (.bool r) ∧ Below w.heap.size w w' := by
  have hu34 := Try.underlying34
  have HR0 := Aside0.mk hr0
  have HC0 := Aside0.mk hc0
  clear hr0 hc0
  have HB := Aside0.mk (Below.refl w.heap.size w)
  have H : (if (l0.length : Int) > 40 then ((paymasterlaw05_awake.f k).bind fun t282 => (some t282)) else ((brackets_Parts.f k l0 a1).bind fun bt283 => ((brackets_Tax.f k l0 a1).bind fun bt287 => ((brackets_Rate.f k l0 a1).bind fun bt289 => ((paymasterref05_Right.f k l0).bind fun t291 => ((brackets_Right.f k l0).bind fun t292 => (if (t292 != t291) = true then (paymasterlaw05_BracketsExact.j0 k l0 a1 bt283.1 bt283.2 bt287.1 bt289.1 t291 true) else (if bt287.2 = bt283.2 then (paymasterlaw05_BracketsExact.j0 k l0 a1 bt283.1 bt283.2 bt287.1 bt289.1 t291 (bt289.2 != bt283.2)) else (paymasterlaw05_BracketsExact.j0 k l0 a1 bt283.1 bt283.2 bt287.1 bt289.1 t291 true))))))))) = some r := h
  clear h
  by_cases c3 : (l0.length : Int) > 40
  · rw [if_pos c3] at H
    have c3b0 : decide (40 < (l0.length : Int)) = true := decide_eq_true c3
    have c3b1 : decide (40 < l0.length) = true := decide_eq_true (by omega)
    clear c3
    replace H := Option.bind_eq_some_iff.mp H
    obtain ⟨t282, A40, H⟩ := H
    replace H : (some t282) = some r := H
    have A4 := Aside0.mk A40
    clear A40
    obtain rfl := Option.some.inj H
    go_enter Try.func3, Try.ntmps3
    go_wp2_with (first | (go_at_call 9; (with_reducible refine (paymasterlaw05_awake.calls k  t282 _ A4.out).mono ?_); rintro e w5 ⟨rfl, hb⟩; have n0_ := Aside0.mk (below_step (by repeat (first | (with_reducible first | exact HB.out | apply below_alloc | apply pw_below_drewN | apply below_drew1) | exact HB.out)) hb); clear HB; have HB := n0_; clear n0_; (try clear hb); (try clear hb2); (try clear hk); (try clear hi)))
    repeat (go_quiet (first | (go_at_call 9; (with_reducible refine (paymasterlaw05_awake.calls k  t282 _ A4.out).mono ?_); rintro e w5 ⟨rfl, hb⟩; have n0_ := Aside0.mk (below_step (by repeat (first | (with_reducible first | exact HB.out | apply below_alloc | apply pw_below_drewN | apply below_drew1) | exact HB.out)) hb); clear HB; have HB := n0_; clear n0_; (try clear hb); (try clear hb2); (try clear hk); (try clear hi))); try go_wp2_with (first | (go_at_call 9; (with_reducible refine (paymasterlaw05_awake.calls k  t282 _ A4.out).mono ?_); rintro e w5 ⟨rfl, hb⟩; have n0_ := Aside0.mk (below_step (by repeat (first | (with_reducible first | exact HB.out | apply below_alloc | apply pw_below_drewN | apply below_drew1) | exact HB.out)) hb); clear HB; have HB := n0_; clear n0_; (try clear hb); (try clear hb2); (try clear hk); (try clear hi))))
    go_ret
    exact ⟨by first | rfl | (simp [errW_none, errW_some] <;> rfl) | (simp [*, errW_none, errW_some] <;> rfl), by repeat (first | (with_reducible first | exact HB.out | apply below_alloc | apply pw_below_drewN | apply below_drew1) | exact HB.out)⟩
  · rw [if_neg c3] at H
    have c3b0 : decide (40 < (l0.length : Int)) = false := decide_eq_false c3
    have c3b1 : decide (40 < l0.length) = false := decide_eq_false (by omega)
    clear c3
    replace H := Option.bind_eq_some_iff.mp H
    obtain ⟨⟨t283, t284⟩, A60, H⟩ := H
    replace H : ((brackets_Tax.f k l0 a1).bind fun bt287 => ((brackets_Rate.f k l0 a1).bind fun bt289 => ((paymasterref05_Right.f k l0).bind fun t291 => ((brackets_Right.f k l0).bind fun t292 => (if (t292 != t291) = true then (paymasterlaw05_BracketsExact.j0 k l0 a1 t283 t284 bt287.1 bt289.1 t291 true) else (if bt287.2 = t284 then (paymasterlaw05_BracketsExact.j0 k l0 a1 t283 t284 bt287.1 bt289.1 t291 (bt289.2 != t284)) else (paymasterlaw05_BracketsExact.j0 k l0 a1 t283 t284 bt287.1 bt289.1 t291 true))))))) = some r := H
    have A6 := Aside0.mk A60
    clear A60
    replace H := Option.bind_eq_some_iff.mp H
    obtain ⟨⟨t287, t288⟩, A70, H⟩ := H
    replace H : ((brackets_Rate.f k l0 a1).bind fun bt289 => ((paymasterref05_Right.f k l0).bind fun t291 => ((brackets_Right.f k l0).bind fun t292 => (if (t292 != t291) = true then (paymasterlaw05_BracketsExact.j0 k l0 a1 t283 t284 t287 bt289.1 t291 true) else (if t288 = t284 then (paymasterlaw05_BracketsExact.j0 k l0 a1 t283 t284 t287 bt289.1 t291 (bt289.2 != t284)) else (paymasterlaw05_BracketsExact.j0 k l0 a1 t283 t284 t287 bt289.1 t291 true)))))) = some r := H
    have A7 := Aside0.mk A70
    clear A70
    replace H := Option.bind_eq_some_iff.mp H
    obtain ⟨⟨t289, t290⟩, A80, H⟩ := H
    replace H : ((paymasterref05_Right.f k l0).bind fun t291 => ((brackets_Right.f k l0).bind fun t292 => (if (t292 != t291) = true then (paymasterlaw05_BracketsExact.j0 k l0 a1 t283 t284 t287 t289 t291 true) else (if t288 = t284 then (paymasterlaw05_BracketsExact.j0 k l0 a1 t283 t284 t287 t289 t291 (t290 != t284)) else (paymasterlaw05_BracketsExact.j0 k l0 a1 t283 t284 t287 t289 t291 true))))) = some r := H
    have A8 := Aside0.mk A80
    clear A80
    replace H := Option.bind_eq_some_iff.mp H
    obtain ⟨t291, A90, H⟩ := H
    replace H : ((brackets_Right.f k l0).bind fun t292 => (if (t292 != t291) = true then (paymasterlaw05_BracketsExact.j0 k l0 a1 t283 t284 t287 t289 t291 true) else (if t288 = t284 then (paymasterlaw05_BracketsExact.j0 k l0 a1 t283 t284 t287 t289 t291 (t290 != t284)) else (paymasterlaw05_BracketsExact.j0 k l0 a1 t283 t284 t287 t289 t291 true)))) = some r := H
    have A9 := Aside0.mk A90
    clear A90
    have HC10 := Aside0.mk H
    clear H
    go_enter Try.func3, Try.ntmps3
    go_upto_region 7 with (first | (go_at_call 10; (with_reducible refine (brackets_Parts.calls k _ _ l0 a1 t283 t284 _ ?side1 ?side2 A6.out).mono ?_); (case side1 => repeat (first | exact HR0.out | (with_reducible refine Kd.C_alloc ?_ _) | (with_reducible refine Kd.C_drewN ?_ _) | (with_reducible refine Kd.C_drew ?_))); (case side2 => exact HC0.out); rintro e w11 ⟨v285, rfl, ho0, hb⟩; have n0_ := Aside0.mk (Kd.R_lower ho0 (below_size (by repeat (first | (with_reducible first | exact HB.out | apply below_alloc | apply pw_below_drewN | apply below_drew1) | exact HB.out)))); have n1_ := Aside0.mk (below_step (by repeat (first | (with_reducible first | exact HB.out | apply below_alloc | apply pw_below_drewN | apply below_drew1) | exact HB.out)) hb); clear HB; have HO286 := n0_; have HB := n1_; clear n0_ n1_; (try clear hb); (try clear hb2); (try clear hk); (try clear hi); (try clear ho0)) | (go_at_call 11; (with_reducible refine (brackets_Tax.calls k _ _ l0 a1 t287 t288 _ ?side1 ?side2 A7.out).mono ?_); (case side1 => repeat (first | exact (Kd.C_below HR0.out HB.out) | (with_reducible refine Kd.C_alloc ?_ _) | (with_reducible refine Kd.C_drewN ?_ _) | (with_reducible refine Kd.C_drew ?_))); (case side2 => exact HC0.out); rintro e w12 ⟨rfl, hb⟩; have n0_ := Aside0.mk (Kd.R_below (by (with_reducible repeat (first | apply Kd.R_alloc | apply Kd.R_drewN | apply Kd.R_drew)); exact HO286.out) hb); have n1_ := Aside0.mk (below_step (by repeat (first | (with_reducible first | exact HB.out | apply below_alloc | apply pw_below_drewN | apply below_drew1) | exact HB.out)) hb); clear HO286; clear HB; have HO286 := n0_; have HB := n1_; clear n0_ n1_; (try clear hb); (try clear hb2); (try clear hk); (try clear hi)) | (go_at_call 12; (with_reducible refine (brackets_Rate.calls k _ _ l0 a1 t289 t290 _ ?side1 ?side2 A8.out).mono ?_); (case side1 => repeat (first | exact (Kd.C_below HR0.out HB.out) | (with_reducible refine Kd.C_alloc ?_ _) | (with_reducible refine Kd.C_drewN ?_ _) | (with_reducible refine Kd.C_drew ?_))); (case side2 => exact HC0.out); rintro e w13 ⟨rfl, hb⟩; have n0_ := Aside0.mk (Kd.R_below (by (with_reducible repeat (first | apply Kd.R_alloc | apply Kd.R_drewN | apply Kd.R_drew)); exact HO286.out) hb); have n1_ := Aside0.mk (below_step (by repeat (first | (with_reducible first | exact HB.out | apply below_alloc | apply pw_below_drewN | apply below_drew1) | exact HB.out)) hb); clear HO286; clear HB; have HO286 := n0_; have HB := n1_; clear n0_ n1_; (try clear hb); (try clear hb2); (try clear hk); (try clear hi)) | (go_at_call 13; (with_reducible refine (paymasterref05_Right.calls k _ _ l0 t291 _ ?side1 ?side2 A9.out).mono ?_); (case side1 => repeat (first | exact (Kd.C_below HR0.out HB.out) | (with_reducible refine Kd.C_alloc ?_ _) | (with_reducible refine Kd.C_drewN ?_ _) | (with_reducible refine Kd.C_drew ?_))); (case side2 => exact HC0.out); rintro e w' ⟨rfl, ⟨nd, rfl⟩⟩; (try first | exact ⟨rfl, _, World.drewN_drewN _ _ _⟩ | exact ⟨rfl, _, Eq.trans (World.drewN_drewN _ _ _) (congrArg (World.drewN _) (Nat.add_assoc _ _ _))⟩)))
    repeat (go_quiet (first | (go_at_call 10; (with_reducible refine (brackets_Parts.calls k _ _ l0 a1 t283 t284 _ ?side1 ?side2 A6.out).mono ?_); (case side1 => repeat (first | exact HR0.out | (with_reducible refine Kd.C_alloc ?_ _) | (with_reducible refine Kd.C_drewN ?_ _) | (with_reducible refine Kd.C_drew ?_))); (case side2 => exact HC0.out); rintro e w11 ⟨v285, rfl, ho0, hb⟩; have n0_ := Aside0.mk (Kd.R_lower ho0 (below_size (by repeat (first | (with_reducible first | exact HB.out | apply below_alloc | apply pw_below_drewN | apply below_drew1) | exact HB.out)))); have n1_ := Aside0.mk (below_step (by repeat (first | (with_reducible first | exact HB.out | apply below_alloc | apply pw_below_drewN | apply below_drew1) | exact HB.out)) hb); clear HB; have HO286 := n0_; have HB := n1_; clear n0_ n1_; (try clear hb); (try clear hb2); (try clear hk); (try clear hi); (try clear ho0)) | (go_at_call 11; (with_reducible refine (brackets_Tax.calls k _ _ l0 a1 t287 t288 _ ?side1 ?side2 A7.out).mono ?_); (case side1 => repeat (first | exact (Kd.C_below HR0.out HB.out) | (with_reducible refine Kd.C_alloc ?_ _) | (with_reducible refine Kd.C_drewN ?_ _) | (with_reducible refine Kd.C_drew ?_))); (case side2 => exact HC0.out); rintro e w12 ⟨rfl, hb⟩; have n0_ := Aside0.mk (Kd.R_below (by (with_reducible repeat (first | apply Kd.R_alloc | apply Kd.R_drewN | apply Kd.R_drew)); exact HO286.out) hb); have n1_ := Aside0.mk (below_step (by repeat (first | (with_reducible first | exact HB.out | apply below_alloc | apply pw_below_drewN | apply below_drew1) | exact HB.out)) hb); clear HO286; clear HB; have HO286 := n0_; have HB := n1_; clear n0_ n1_; (try clear hb); (try clear hb2); (try clear hk); (try clear hi)) | (go_at_call 12; (with_reducible refine (brackets_Rate.calls k _ _ l0 a1 t289 t290 _ ?side1 ?side2 A8.out).mono ?_); (case side1 => repeat (first | exact (Kd.C_below HR0.out HB.out) | (with_reducible refine Kd.C_alloc ?_ _) | (with_reducible refine Kd.C_drewN ?_ _) | (with_reducible refine Kd.C_drew ?_))); (case side2 => exact HC0.out); rintro e w13 ⟨rfl, hb⟩; have n0_ := Aside0.mk (Kd.R_below (by (with_reducible repeat (first | apply Kd.R_alloc | apply Kd.R_drewN | apply Kd.R_drew)); exact HO286.out) hb); have n1_ := Aside0.mk (below_step (by repeat (first | (with_reducible first | exact HB.out | apply below_alloc | apply pw_below_drewN | apply below_drew1) | exact HB.out)) hb); clear HO286; clear HB; have HO286 := n0_; have HB := n1_; clear n0_ n1_; (try clear hb); (try clear hb2); (try clear hk); (try clear hi)) | (go_at_call 13; (with_reducible refine (paymasterref05_Right.calls k _ _ l0 t291 _ ?side1 ?side2 A9.out).mono ?_); (case side1 => repeat (first | exact (Kd.C_below HR0.out HB.out) | (with_reducible refine Kd.C_alloc ?_ _) | (with_reducible refine Kd.C_drewN ?_ _) | (with_reducible refine Kd.C_drew ?_))); (case side2 => exact HC0.out); rintro e w' ⟨rfl, ⟨nd, rfl⟩⟩; (try first | exact ⟨rfl, _, World.drewN_drewN _ _ _⟩ | exact ⟨rfl, _, Eq.trans (World.drewN_drewN _ _ _) (congrArg (World.drewN _) (Nat.add_assoc _ _ _))⟩))); go_upto_region 7 with (first | (go_at_call 10; (with_reducible refine (brackets_Parts.calls k _ _ l0 a1 t283 t284 _ ?side1 ?side2 A6.out).mono ?_); (case side1 => repeat (first | exact HR0.out | (with_reducible refine Kd.C_alloc ?_ _) | (with_reducible refine Kd.C_drewN ?_ _) | (with_reducible refine Kd.C_drew ?_))); (case side2 => exact HC0.out); rintro e w11 ⟨v285, rfl, ho0, hb⟩; have n0_ := Aside0.mk (Kd.R_lower ho0 (below_size (by repeat (first | (with_reducible first | exact HB.out | apply below_alloc | apply pw_below_drewN | apply below_drew1) | exact HB.out)))); have n1_ := Aside0.mk (below_step (by repeat (first | (with_reducible first | exact HB.out | apply below_alloc | apply pw_below_drewN | apply below_drew1) | exact HB.out)) hb); clear HB; have HO286 := n0_; have HB := n1_; clear n0_ n1_; (try clear hb); (try clear hb2); (try clear hk); (try clear hi); (try clear ho0)) | (go_at_call 11; (with_reducible refine (brackets_Tax.calls k _ _ l0 a1 t287 t288 _ ?side1 ?side2 A7.out).mono ?_); (case side1 => repeat (first | exact (Kd.C_below HR0.out HB.out) | (with_reducible refine Kd.C_alloc ?_ _) | (with_reducible refine Kd.C_drewN ?_ _) | (with_reducible refine Kd.C_drew ?_))); (case side2 => exact HC0.out); rintro e w12 ⟨rfl, hb⟩; have n0_ := Aside0.mk (Kd.R_below (by (with_reducible repeat (first | apply Kd.R_alloc | apply Kd.R_drewN | apply Kd.R_drew)); exact HO286.out) hb); have n1_ := Aside0.mk (below_step (by repeat (first | (with_reducible first | exact HB.out | apply below_alloc | apply pw_below_drewN | apply below_drew1) | exact HB.out)) hb); clear HO286; clear HB; have HO286 := n0_; have HB := n1_; clear n0_ n1_; (try clear hb); (try clear hb2); (try clear hk); (try clear hi)) | (go_at_call 12; (with_reducible refine (brackets_Rate.calls k _ _ l0 a1 t289 t290 _ ?side1 ?side2 A8.out).mono ?_); (case side1 => repeat (first | exact (Kd.C_below HR0.out HB.out) | (with_reducible refine Kd.C_alloc ?_ _) | (with_reducible refine Kd.C_drewN ?_ _) | (with_reducible refine Kd.C_drew ?_))); (case side2 => exact HC0.out); rintro e w13 ⟨rfl, hb⟩; have n0_ := Aside0.mk (Kd.R_below (by (with_reducible repeat (first | apply Kd.R_alloc | apply Kd.R_drewN | apply Kd.R_drew)); exact HO286.out) hb); have n1_ := Aside0.mk (below_step (by repeat (first | (with_reducible first | exact HB.out | apply below_alloc | apply pw_below_drewN | apply below_drew1) | exact HB.out)) hb); clear HO286; clear HB; have HO286 := n0_; have HB := n1_; clear n0_ n1_; (try clear hb); (try clear hb2); (try clear hk); (try clear hi)) | (go_at_call 13; (with_reducible refine (paymasterref05_Right.calls k _ _ l0 t291 _ ?side1 ?side2 A9.out).mono ?_); (case side1 => repeat (first | exact (Kd.C_below HR0.out HB.out) | (with_reducible refine Kd.C_alloc ?_ _) | (with_reducible refine Kd.C_drewN ?_ _) | (with_reducible refine Kd.C_drew ?_))); (case side2 => exact HC0.out); rintro e w' ⟨rfl, ⟨nd, rfl⟩⟩; (try first | exact ⟨rfl, _, World.drewN_drewN _ _ _⟩ | exact ⟨rfl, _, Eq.trans (World.drewN_drewN _ _ _) (congrArg (World.drewN _) (Nat.add_assoc _ _ _))⟩))))
    (try simp only [Act.put, List.setIfInBounds_toArray, List.set_cons_zero, List.set_cons_succ])
    go_cut [53] (fun v53 wc => ∃ (kq : Nat) (x53_9 : Bool), v53 = .bool x53_9 ∧ Aside0 (paymasterlaw05_BracketsExact.j0 kq l0 a1 t283 t284 t287 t289 t291 x53_9 = some r) ∧ Aside0 (kq ≤ k) ∧ Aside0 (Kd.R (Kd.int .i64) 3 wc w.heap.size (fun _ => True) v285 t283) ∧ Aside0 (Below w.heap.size w wc))
    case first =>
      have H := HC10.out
      clear HC10
      replace H := Option.bind_eq_some_iff.mp H
      obtain ⟨t292, A140, H⟩ := H
      replace H : (if (t292 != t291) = true then (paymasterlaw05_BracketsExact.j0 k l0 a1 t283 t284 t287 t289 t291 true) else (if t288 = t284 then (paymasterlaw05_BracketsExact.j0 k l0 a1 t283 t284 t287 t289 t291 (t290 != t284)) else (paymasterlaw05_BracketsExact.j0 k l0 a1 t283 t284 t287 t289 t291 true))) = some r := H
      have A14 := Aside0.mk A140
      clear A140
      by_cases c15 : (t292 != t291) = true
      · rw [if_pos c15] at H
        have c15b0 : (t292 != t291) = true := c15
        (try (have c15b1 : decide (t292 = t291) = false := by simpa using c15))
        (try (have c15b2 : (t292 == t291) = false := by simpa using c15))
        (try (have c15b3 : ¬ (t292 = t291) := by simpa using c15))
        clear c15
        (first | rw [c15b0] | (simp only [i64_w, i32_w]; rw [c15b0]) | skip)
        have H' := Aside0.mk H
        clear H
        go_wp2_with (first | (go_at_call 14; (with_reducible refine (brackets_Right.calls k _ _ l0 t292 _ ?side1 ?side2 A14.out).mono ?_); (case side1 => repeat (first | exact (Kd.C_below HR0.out HB.out) | (with_reducible refine Kd.C_alloc ?_ _) | (with_reducible refine Kd.C_drewN ?_ _) | (with_reducible refine Kd.C_drew ?_))); (case side2 => exact HC0.out); rintro e w16 ⟨rfl, hb⟩; have n0_ := Aside0.mk (Kd.R_below (by (with_reducible repeat (first | apply Kd.R_alloc | apply Kd.R_drewN | apply Kd.R_drew)); exact HO286.out) hb); have n1_ := Aside0.mk (below_step (by repeat (first | (with_reducible first | exact HB.out | apply below_alloc | apply pw_below_drewN | apply below_drew1) | exact HB.out)) hb); clear HO286; clear HB; have HO286 := n0_; have HB := n1_; clear n0_ n1_; (try clear hb); (try clear hb2); (try clear hk); (try clear hi)))
        repeat (go_quiet (first | (go_at_call 14; (with_reducible refine (brackets_Right.calls k _ _ l0 t292 _ ?side1 ?side2 A14.out).mono ?_); (case side1 => repeat (first | exact (Kd.C_below HR0.out HB.out) | (with_reducible refine Kd.C_alloc ?_ _) | (with_reducible refine Kd.C_drewN ?_ _) | (with_reducible refine Kd.C_drew ?_))); (case side2 => exact HC0.out); rintro e w16 ⟨rfl, hb⟩; have n0_ := Aside0.mk (Kd.R_below (by (with_reducible repeat (first | apply Kd.R_alloc | apply Kd.R_drewN | apply Kd.R_drew)); exact HO286.out) hb); have n1_ := Aside0.mk (below_step (by repeat (first | (with_reducible first | exact HB.out | apply below_alloc | apply pw_below_drewN | apply below_drew1) | exact HB.out)) hb); clear HO286; clear HB; have HO286 := n0_; have HB := n1_; clear n0_ n1_; (try clear hb); (try clear hb2); (try clear hk); (try clear hi))); try go_wp2_with (first | (go_at_call 14; (with_reducible refine (brackets_Right.calls k _ _ l0 t292 _ ?side1 ?side2 A14.out).mono ?_); (case side1 => repeat (first | exact (Kd.C_below HR0.out HB.out) | (with_reducible refine Kd.C_alloc ?_ _) | (with_reducible refine Kd.C_drewN ?_ _) | (with_reducible refine Kd.C_drew ?_))); (case side2 => exact HC0.out); rintro e w16 ⟨rfl, hb⟩; have n0_ := Aside0.mk (Kd.R_below (by (with_reducible repeat (first | apply Kd.R_alloc | apply Kd.R_drewN | apply Kd.R_drew)); exact HO286.out) hb); have n1_ := Aside0.mk (below_step (by repeat (first | (with_reducible first | exact HB.out | apply below_alloc | apply pw_below_drewN | apply below_drew1) | exact HB.out)) hb); clear HO286; clear HB; have HO286 := n0_; have HB := n1_; clear n0_ n1_; (try clear hb); (try clear hb2); (try clear hk); (try clear hi))))
        go_meet
        case rel => exact ⟨_, (true), (by first | rfl | (simp; done) | (simp [*]; done)), H', ⟨by first | omega | exact Nat.le_refl _⟩, ⟨by (with_reducible repeat (first | apply Kd.R_alloc | apply Kd.R_drewN | apply Kd.R_drew)); exact HO286.out⟩, ⟨by repeat (first | (with_reducible first | exact HB.out | apply below_alloc | apply pw_below_drewN | apply below_drew1) | exact HB.out)⟩⟩
      · rw [if_neg c15] at H
        have c15b0 : (t292 != t291) = false := by simpa using c15
        (try (have c15b1 : decide (t292 = t291) = true := by simpa using c15))
        (try (have c15b2 : (t292 == t291) = true := by simpa using c15))
        clear c15
        (first | rw [c15b0] | (simp only [i64_w, i32_w]; rw [c15b0]) | skip)
        by_cases c17 : t288 = t284
        · rw [if_pos c17] at H
          have c17b0 : (t288 == t284) = true := beq_iff_eq.mpr c17
          have c17b1 : (t288 != t284) = false := bne_eq_false_iff_eq.mpr c17
          clear c17
          have H' := Aside0.mk H
          clear H
          go_wp2_with (first | (go_at_call 14; (with_reducible refine (brackets_Right.calls k _ _ l0 t292 _ ?side1 ?side2 A14.out).mono ?_); (case side1 => repeat (first | exact (Kd.C_below HR0.out HB.out) | (with_reducible refine Kd.C_alloc ?_ _) | (with_reducible refine Kd.C_drewN ?_ _) | (with_reducible refine Kd.C_drew ?_))); (case side2 => exact HC0.out); rintro e w18 ⟨rfl, hb⟩; have n0_ := Aside0.mk (Kd.R_below (by (with_reducible repeat (first | apply Kd.R_alloc | apply Kd.R_drewN | apply Kd.R_drew)); exact HO286.out) hb); have n1_ := Aside0.mk (below_step (by repeat (first | (with_reducible first | exact HB.out | apply below_alloc | apply pw_below_drewN | apply below_drew1) | exact HB.out)) hb); clear HO286; clear HB; have HO286 := n0_; have HB := n1_; clear n0_ n1_; (try clear hb); (try clear hb2); (try clear hk); (try clear hi)))
          repeat (go_quiet (first | (go_at_call 14; (with_reducible refine (brackets_Right.calls k _ _ l0 t292 _ ?side1 ?side2 A14.out).mono ?_); (case side1 => repeat (first | exact (Kd.C_below HR0.out HB.out) | (with_reducible refine Kd.C_alloc ?_ _) | (with_reducible refine Kd.C_drewN ?_ _) | (with_reducible refine Kd.C_drew ?_))); (case side2 => exact HC0.out); rintro e w18 ⟨rfl, hb⟩; have n0_ := Aside0.mk (Kd.R_below (by (with_reducible repeat (first | apply Kd.R_alloc | apply Kd.R_drewN | apply Kd.R_drew)); exact HO286.out) hb); have n1_ := Aside0.mk (below_step (by repeat (first | (with_reducible first | exact HB.out | apply below_alloc | apply pw_below_drewN | apply below_drew1) | exact HB.out)) hb); clear HO286; clear HB; have HO286 := n0_; have HB := n1_; clear n0_ n1_; (try clear hb); (try clear hb2); (try clear hk); (try clear hi))); try go_wp2_with (first | (go_at_call 14; (with_reducible refine (brackets_Right.calls k _ _ l0 t292 _ ?side1 ?side2 A14.out).mono ?_); (case side1 => repeat (first | exact (Kd.C_below HR0.out HB.out) | (with_reducible refine Kd.C_alloc ?_ _) | (with_reducible refine Kd.C_drewN ?_ _) | (with_reducible refine Kd.C_drew ?_))); (case side2 => exact HC0.out); rintro e w18 ⟨rfl, hb⟩; have n0_ := Aside0.mk (Kd.R_below (by (with_reducible repeat (first | apply Kd.R_alloc | apply Kd.R_drewN | apply Kd.R_drew)); exact HO286.out) hb); have n1_ := Aside0.mk (below_step (by repeat (first | (with_reducible first | exact HB.out | apply below_alloc | apply pw_below_drewN | apply below_drew1) | exact HB.out)) hb); clear HO286; clear HB; have HO286 := n0_; have HB := n1_; clear n0_ n1_; (try clear hb); (try clear hb2); (try clear hk); (try clear hi))))
          go_meet
          case rel => exact ⟨_, ((t290 != t284)), (by first | rfl | (simp; done) | (simp [*]; done)), H', ⟨by first | omega | exact Nat.le_refl _⟩, ⟨by (with_reducible repeat (first | apply Kd.R_alloc | apply Kd.R_drewN | apply Kd.R_drew)); exact HO286.out⟩, ⟨by repeat (first | (with_reducible first | exact HB.out | apply below_alloc | apply pw_below_drewN | apply below_drew1) | exact HB.out)⟩⟩
        · rw [if_neg c17] at H
          have c17b0 : (t288 == t284) = false := beq_eq_false_iff_ne.mpr c17
          have c17b1 : (t288 != t284) = true := bne_iff_ne.mpr c17
          have H' := Aside0.mk H
          clear H
          go_wp2_with (first | (go_at_call 14; (with_reducible refine (brackets_Right.calls k _ _ l0 t292 _ ?side1 ?side2 A14.out).mono ?_); (case side1 => repeat (first | exact (Kd.C_below HR0.out HB.out) | (with_reducible refine Kd.C_alloc ?_ _) | (with_reducible refine Kd.C_drewN ?_ _) | (with_reducible refine Kd.C_drew ?_))); (case side2 => exact HC0.out); rintro e w19 ⟨rfl, hb⟩; have n0_ := Aside0.mk (Kd.R_below (by (with_reducible repeat (first | apply Kd.R_alloc | apply Kd.R_drewN | apply Kd.R_drew)); exact HO286.out) hb); have n1_ := Aside0.mk (below_step (by repeat (first | (with_reducible first | exact HB.out | apply below_alloc | apply pw_below_drewN | apply below_drew1) | exact HB.out)) hb); clear HO286; clear HB; have HO286 := n0_; have HB := n1_; clear n0_ n1_; (try clear hb); (try clear hb2); (try clear hk); (try clear hi)))
          repeat (go_quiet (first | (go_at_call 14; (with_reducible refine (brackets_Right.calls k _ _ l0 t292 _ ?side1 ?side2 A14.out).mono ?_); (case side1 => repeat (first | exact (Kd.C_below HR0.out HB.out) | (with_reducible refine Kd.C_alloc ?_ _) | (with_reducible refine Kd.C_drewN ?_ _) | (with_reducible refine Kd.C_drew ?_))); (case side2 => exact HC0.out); rintro e w19 ⟨rfl, hb⟩; have n0_ := Aside0.mk (Kd.R_below (by (with_reducible repeat (first | apply Kd.R_alloc | apply Kd.R_drewN | apply Kd.R_drew)); exact HO286.out) hb); have n1_ := Aside0.mk (below_step (by repeat (first | (with_reducible first | exact HB.out | apply below_alloc | apply pw_below_drewN | apply below_drew1) | exact HB.out)) hb); clear HO286; clear HB; have HO286 := n0_; have HB := n1_; clear n0_ n1_; (try clear hb); (try clear hb2); (try clear hk); (try clear hi))); try go_wp2_with (first | (go_at_call 14; (with_reducible refine (brackets_Right.calls k _ _ l0 t292 _ ?side1 ?side2 A14.out).mono ?_); (case side1 => repeat (first | exact (Kd.C_below HR0.out HB.out) | (with_reducible refine Kd.C_alloc ?_ _) | (with_reducible refine Kd.C_drewN ?_ _) | (with_reducible refine Kd.C_drew ?_))); (case side2 => exact HC0.out); rintro e w19 ⟨rfl, hb⟩; have n0_ := Aside0.mk (Kd.R_below (by (with_reducible repeat (first | apply Kd.R_alloc | apply Kd.R_drewN | apply Kd.R_drew)); exact HO286.out) hb); have n1_ := Aside0.mk (below_step (by repeat (first | (with_reducible first | exact HB.out | apply below_alloc | apply pw_below_drewN | apply below_drew1) | exact HB.out)) hb); clear HO286; clear HB; have HO286 := n0_; have HB := n1_; clear n0_ n1_; (try clear hb); (try clear hb2); (try clear hk); (try clear hi))))
          go_meet
          case rel => exact ⟨_, (true), (by first | rfl | (simp; done) | (simp [*]; done)), H', ⟨by first | omega | exact Nat.le_refl _⟩, ⟨by (with_reducible repeat (first | apply Kd.R_alloc | apply Kd.R_drewN | apply Kd.R_drew)); exact HO286.out⟩, ⟨by repeat (first | (with_reducible first | exact HB.out | apply below_alloc | apply pw_below_drewN | apply below_drew1) | exact HB.out)⟩⟩
    case rest =>
      clear HC10
      try clear c1
      try clear p2
      try clear c3
      try clear c3b0
      try clear c3b1
      try clear c15
      try clear c15b0
      try clear c15b1
      try clear c15b2
      try clear c17
      try clear c17b0
      try clear c17b1
      obtain ⟨kq, x53_9, rfl, HA, HJ9, HO_5, HB⟩ := hcut
      cases kq with
      | zero => exact absurd HA.out (by simp [paymasterlaw05_BracketsExact.j0])
      | succ kj9 =>
        have H := HA.out
        clear HA
        simp only [paymasterlaw05_BracketsExact.j0] at H
        by_cases c20 : x53_9 = true
        · subst c20
          have H1 : (none) = some r := by rw [if_pos rfl] at H; exact H
          clear H
          have H := H1
          clear H1
          exact absurd H (by simp)
        · replace c20 := Bool.eq_false_iff.mpr c20
          subst c20
          have H1 : (if t291 = true then ((paymasterref01_Right.f a1).bind fun t293 => (paymasterlaw05_BracketsExact.j1 kj9 l0 a1 t283 t284 t287 t289 t291 (!t293))) else (paymasterlaw05_BracketsExact.j1 kj9 l0 a1 t283 t284 t287 t289 t291 true)) = some r := by rw [if_neg (show ¬ (false = true) by decide)] at H; exact H
          clear H
          have H := H1
          clear H1
          have HC21 := Aside0.mk H
          clear H
          go_upto_region 9 with (fail)
          repeat (go_quiet (fail); go_upto_region 9 with (fail))
          go_cut [60] (fun v60 wc => ∃ (kq : Nat) (x60_20 : Bool), v60 = .bool x60_20 ∧ Aside0 (paymasterlaw05_BracketsExact.j1 kq l0 a1 t283 t284 t287 t289 t291 x60_20 = some r) ∧ Aside0 (kq ≤ kj9) ∧ Aside0 (Kd.R (Kd.int .i64) 3 wc w.heap.size (fun _ => True) v285 t283) ∧ Aside0 (Below w.heap.size w wc))
          case first =>
            have H := HC21.out
            clear HC21
            by_cases c22 : t291 = true
            · subst c22
              have H1 : ((paymasterref01_Right.f a1).bind fun t293 => (paymasterlaw05_BracketsExact.j1 kj9 l0 a1 t283 t284 t287 t289 true (!t293))) = some r := by rw [if_pos rfl] at H; exact H
              clear H
              have H := H1
              clear H1
              replace H := Option.bind_eq_some_iff.mp H
              obtain ⟨t293, A230, H⟩ := H
              replace H : (paymasterlaw05_BracketsExact.j1 kj9 l0 a1 t283 t284 t287 t289 true (!t293)) = some r := H
              have A23 := Aside0.mk A230
              clear A230
              have H' := Aside0.mk H
              clear H
              go_wp2_with (first | (go_at_call 15; (with_reducible refine (paymasterref01_Right.calls a1 t293 _ A23.out).mono ?_); rintro e w' ⟨rfl, ⟨nd, rfl⟩⟩; (try first | exact ⟨rfl, _, World.drewN_drewN _ _ _⟩ | exact ⟨rfl, _, Eq.trans (World.drewN_drewN _ _ _) (congrArg (World.drewN _) (Nat.add_assoc _ _ _))⟩)))
              repeat (go_quiet (first | (go_at_call 15; (with_reducible refine (paymasterref01_Right.calls a1 t293 _ A23.out).mono ?_); rintro e w' ⟨rfl, ⟨nd, rfl⟩⟩; (try first | exact ⟨rfl, _, World.drewN_drewN _ _ _⟩ | exact ⟨rfl, _, Eq.trans (World.drewN_drewN _ _ _) (congrArg (World.drewN _) (Nat.add_assoc _ _ _))⟩))); try go_wp2_with (first | (go_at_call 15; (with_reducible refine (paymasterref01_Right.calls a1 t293 _ A23.out).mono ?_); rintro e w' ⟨rfl, ⟨nd, rfl⟩⟩; (try first | exact ⟨rfl, _, World.drewN_drewN _ _ _⟩ | exact ⟨rfl, _, Eq.trans (World.drewN_drewN _ _ _) (congrArg (World.drewN _) (Nat.add_assoc _ _ _))⟩))))
              go_meet
              case rel => exact ⟨_, (!t293), (by first | rfl | (simp; done) | (simp [*]; done)), H', ⟨by have := HJ9.out; first | omega | exact Nat.le_refl _⟩, ⟨by (with_reducible repeat (first | apply Kd.R_alloc | apply Kd.R_drewN | apply Kd.R_drew)); exact HO_5.out⟩, ⟨by repeat (first | (with_reducible first | exact HB.out | apply below_alloc | apply pw_below_drewN | apply below_drew1) | exact HB.out)⟩⟩
            · replace c22 := Bool.eq_false_iff.mpr c22
              subst c22
              have H1 : (paymasterlaw05_BracketsExact.j1 kj9 l0 a1 t283 t284 t287 t289 false true) = some r := by rw [if_neg (show ¬ (false = true) by decide)] at H; exact H
              clear H
              have H := H1
              clear H1
              have H' := Aside0.mk H
              clear H
              go_wp2
              repeat (go_quiet (fail); try go_wp2)
              go_meet
              case rel => exact ⟨_, (true), (by first | rfl | (simp; done) | (simp [*]; done)), H', ⟨by have := HJ9.out; first | omega | exact Nat.le_refl _⟩, ⟨by (with_reducible repeat (first | apply Kd.R_alloc | apply Kd.R_drewN | apply Kd.R_drew)); exact HO_5.out⟩, ⟨by repeat (first | (with_reducible first | exact HB.out | apply below_alloc | apply pw_below_drewN | apply below_drew1) | exact HB.out)⟩⟩
          case rest =>
            clear HC21
            try clear c1
            try clear c2
            try clear p2
            try clear c3
            try clear c3b0
            try clear c3b1
            try clear c15
            try clear c15b0
            try clear c15b1
            try clear c15b2
            try clear c17
            try clear c17b0
            try clear c17b1
            try clear c20
            try clear c22
            try clear p2
            obtain ⟨kq, x60_20, rfl, HA, HJ20, HO_5, HB⟩ := hcut
            cases kq with
            | zero => exact absurd HA.out (by simp [paymasterlaw05_BracketsExact.j1])
            | succ kj20 =>
              have H := HA.out
              clear HA
              simp only [paymasterlaw05_BracketsExact.j1] at H
              by_cases c24 : x60_20 = true
              · subst c24
                have H1 : (if t291 = true then (if (t283.length : Int) = 0 then (if t287 = 0 then (if t289 = 0 then (if t284 = 3 then ((paymasterlaw05_awake.f kj20).bind fun t294 => (some t294)) else (none)) else (none)) else (none)) else (none)) else (if (t283.length : Int) = 0 then (if t287 = 0 then (if t289 = 0 then (if t284 = 1 then ((paymasterlaw05_awake.f kj20).bind fun t295 => (some t295)) else (none)) else (none)) else (none)) else (none))) = some r := by rw [if_pos rfl] at H; exact H
                clear H
                have H := H1
                clear H1
                by_cases c25 : t291 = true
                · subst c25
                  have H1 : (if (t283.length : Int) = 0 then (if t287 = 0 then (if t289 = 0 then (if t284 = 3 then ((paymasterlaw05_awake.f kj20).bind fun t294 => (some t294)) else (none)) else (none)) else (none)) else (none)) = some r := by rw [if_pos rfl] at H; exact H
                  clear H
                  have H := H1
                  clear H1
                  by_cases c26 : (t283.length : Int) = 0
                  · rw [if_pos c26] at H
                    have c26b0 : ((t283.length : Int) == 0) = true := beq_iff_eq.mpr c26
                    have c26b1 : ((t283.length : Int) != 0) = false := bne_eq_false_iff_eq.mpr c26
                    clear c26
                    by_cases c27 : t287 = 0
                    · rw [if_pos c27] at H
                      have c27b0 : (t287 == 0) = true := beq_iff_eq.mpr c27
                      have c27b1 : (t287 != 0) = false := bne_eq_false_iff_eq.mpr c27
                      clear c27
                      by_cases c28 : t289 = 0
                      · rw [if_pos c28] at H
                        have c28b0 : (t289 == 0) = true := beq_iff_eq.mpr c28
                        have c28b1 : (t289 != 0) = false := bne_eq_false_iff_eq.mpr c28
                        clear c28
                        by_cases c29 : t284 = 3
                        · rw [if_pos c29] at H
                          have c29b0 : (t284 == 3) = true := beq_iff_eq.mpr c29
                          have c29b1 : (t284 != 3) = false := bne_eq_false_iff_eq.mpr c29
                          clear c29
                          replace H := Option.bind_eq_some_iff.mp H
                          obtain ⟨t294, A300, H⟩ := H
                          replace H : (some t294) = some r := H
                          have A30 := Aside0.mk A300
                          clear A300
                          obtain rfl := Option.some.inj H
                          obtain ⟨Ao31, co31, eo31⟩ := Kd.R_slice HO_5.out
                          subst eo31
                          go_wp2_with (first | (go_at_call 9; (with_reducible refine (paymasterlaw05_awake.calls kj20  t294 _ A30.out).mono ?_); rintro e w32 ⟨rfl, hb⟩; have n0_ := Aside0.mk (Kd.R_below (by (with_reducible repeat (first | apply Kd.R_alloc | apply Kd.R_drewN | apply Kd.R_drew)); exact HO_5.out) hb); have n1_ := Aside0.mk (below_step (by repeat (first | (with_reducible first | exact HB.out | apply below_alloc | apply pw_below_drewN | apply below_drew1) | exact HB.out)) hb); clear HO_5; clear HB; have HO_5 := n0_; have HB := n1_; clear n0_ n1_; (try clear hb); (try clear hb2); (try clear hk); (try clear hi)))
                          repeat (go_quiet (first | (go_at_call 9; (with_reducible refine (paymasterlaw05_awake.calls kj20  t294 _ A30.out).mono ?_); rintro e w32 ⟨rfl, hb⟩; have n0_ := Aside0.mk (Kd.R_below (by (with_reducible repeat (first | apply Kd.R_alloc | apply Kd.R_drewN | apply Kd.R_drew)); exact HO_5.out) hb); have n1_ := Aside0.mk (below_step (by repeat (first | (with_reducible first | exact HB.out | apply below_alloc | apply pw_below_drewN | apply below_drew1) | exact HB.out)) hb); clear HO_5; clear HB; have HO_5 := n0_; have HB := n1_; clear n0_ n1_; (try clear hb); (try clear hb2); (try clear hk); (try clear hi))); try go_wp2_with (first | (go_at_call 9; (with_reducible refine (paymasterlaw05_awake.calls kj20  t294 _ A30.out).mono ?_); rintro e w32 ⟨rfl, hb⟩; have n0_ := Aside0.mk (Kd.R_below (by (with_reducible repeat (first | apply Kd.R_alloc | apply Kd.R_drewN | apply Kd.R_drew)); exact HO_5.out) hb); have n1_ := Aside0.mk (below_step (by repeat (first | (with_reducible first | exact HB.out | apply below_alloc | apply pw_below_drewN | apply below_drew1) | exact HB.out)) hb); clear HO_5; clear HB; have HO_5 := n0_; have HB := n1_; clear n0_ n1_; (try clear hb); (try clear hb2); (try clear hk); (try clear hi))))
                          go_ret
                          exact ⟨by first | rfl | (simp [errW_none, errW_some] <;> rfl) | (simp [*, errW_none, errW_some] <;> rfl), by repeat (first | (with_reducible first | exact HB.out | apply below_alloc | apply pw_below_drewN | apply below_drew1) | exact HB.out)⟩
                        · rw [if_neg c29] at H
                          exact absurd H (by simp)
                      · rw [if_neg c28] at H
                        exact absurd H (by simp)
                    · rw [if_neg c27] at H
                      exact absurd H (by simp)
                  · rw [if_neg c26] at H
                    exact absurd H (by simp)
                · replace c25 := Bool.eq_false_iff.mpr c25
                  subst c25
                  have H1 : (if (t283.length : Int) = 0 then (if t287 = 0 then (if t289 = 0 then (if t284 = 1 then ((paymasterlaw05_awake.f kj20).bind fun t295 => (some t295)) else (none)) else (none)) else (none)) else (none)) = some r := by rw [if_neg (show ¬ (false = true) by decide)] at H; exact H
                  clear H
                  have H := H1
                  clear H1
                  by_cases c33 : (t283.length : Int) = 0
                  · rw [if_pos c33] at H
                    have c33b0 : ((t283.length : Int) == 0) = true := beq_iff_eq.mpr c33
                    have c33b1 : ((t283.length : Int) != 0) = false := bne_eq_false_iff_eq.mpr c33
                    clear c33
                    by_cases c34 : t287 = 0
                    · rw [if_pos c34] at H
                      have c34b0 : (t287 == 0) = true := beq_iff_eq.mpr c34
                      have c34b1 : (t287 != 0) = false := bne_eq_false_iff_eq.mpr c34
                      clear c34
                      by_cases c35 : t289 = 0
                      · rw [if_pos c35] at H
                        have c35b0 : (t289 == 0) = true := beq_iff_eq.mpr c35
                        have c35b1 : (t289 != 0) = false := bne_eq_false_iff_eq.mpr c35
                        clear c35
                        by_cases c36 : t284 = 1
                        · rw [if_pos c36] at H
                          have c36b0 : (t284 == 1) = true := beq_iff_eq.mpr c36
                          have c36b1 : (t284 != 1) = false := bne_eq_false_iff_eq.mpr c36
                          clear c36
                          replace H := Option.bind_eq_some_iff.mp H
                          obtain ⟨t295, A370, H⟩ := H
                          replace H : (some t295) = some r := H
                          have A37 := Aside0.mk A370
                          clear A370
                          obtain rfl := Option.some.inj H
                          obtain ⟨Ao38, co38, eo38⟩ := Kd.R_slice HO_5.out
                          subst eo38
                          go_wp2_with (first | (go_at_call 9; (with_reducible refine (paymasterlaw05_awake.calls kj20  t295 _ A37.out).mono ?_); rintro e w39 ⟨rfl, hb⟩; have n0_ := Aside0.mk (Kd.R_below (by (with_reducible repeat (first | apply Kd.R_alloc | apply Kd.R_drewN | apply Kd.R_drew)); exact HO_5.out) hb); have n1_ := Aside0.mk (below_step (by repeat (first | (with_reducible first | exact HB.out | apply below_alloc | apply pw_below_drewN | apply below_drew1) | exact HB.out)) hb); clear HO_5; clear HB; have HO_5 := n0_; have HB := n1_; clear n0_ n1_; (try clear hb); (try clear hb2); (try clear hk); (try clear hi)))
                          repeat (go_quiet (first | (go_at_call 9; (with_reducible refine (paymasterlaw05_awake.calls kj20  t295 _ A37.out).mono ?_); rintro e w39 ⟨rfl, hb⟩; have n0_ := Aside0.mk (Kd.R_below (by (with_reducible repeat (first | apply Kd.R_alloc | apply Kd.R_drewN | apply Kd.R_drew)); exact HO_5.out) hb); have n1_ := Aside0.mk (below_step (by repeat (first | (with_reducible first | exact HB.out | apply below_alloc | apply pw_below_drewN | apply below_drew1) | exact HB.out)) hb); clear HO_5; clear HB; have HO_5 := n0_; have HB := n1_; clear n0_ n1_; (try clear hb); (try clear hb2); (try clear hk); (try clear hi))); try go_wp2_with (first | (go_at_call 9; (with_reducible refine (paymasterlaw05_awake.calls kj20  t295 _ A37.out).mono ?_); rintro e w39 ⟨rfl, hb⟩; have n0_ := Aside0.mk (Kd.R_below (by (with_reducible repeat (first | apply Kd.R_alloc | apply Kd.R_drewN | apply Kd.R_drew)); exact HO_5.out) hb); have n1_ := Aside0.mk (below_step (by repeat (first | (with_reducible first | exact HB.out | apply below_alloc | apply pw_below_drewN | apply below_drew1) | exact HB.out)) hb); clear HO_5; clear HB; have HO_5 := n0_; have HB := n1_; clear n0_ n1_; (try clear hb); (try clear hb2); (try clear hk); (try clear hi))))
                          go_ret
                          exact ⟨by first | rfl | (simp [errW_none, errW_some] <;> rfl) | (simp [*, errW_none, errW_some] <;> rfl), by repeat (first | (with_reducible first | exact HB.out | apply below_alloc | apply pw_below_drewN | apply below_drew1) | exact HB.out)⟩
                        · rw [if_neg c36] at H
                          exact absurd H (by simp)
                      · rw [if_neg c35] at H
                        exact absurd H (by simp)
                    · rw [if_neg c34] at H
                      exact absurd H (by simp)
                  · rw [if_neg c33] at H
                    exact absurd H (by simp)
              · replace c24 := Bool.eq_false_iff.mpr c24
                subst c24
                have H1 : (if (t283.length : Int) = (l0.length : Int) then (if t284 = 0 then ((paymasterref05_Tax.f kj20 l0 a1).bind fun t296 => (paymasterlaw05_BracketsExact.j2 kj20 l0 a1 t283 t289 (t287 != t296))) else (paymasterlaw05_BracketsExact.j2 kj20 l0 a1 t283 t289 true)) else (paymasterlaw05_BracketsExact.j2 kj20 l0 a1 t283 t289 true)) = some r := by rw [if_neg (show ¬ (false = true) by decide)] at H; exact H
                clear H
                have H := H1
                clear H1
                have HC40 := Aside0.mk H
                clear H
                go_upto_region 14 with (fail)
                repeat (go_quiet (fail); go_upto_region 14 with (fail))
                go_cut [96] (fun v96 wc => ∃ (kq : Nat) (x96_39 : Bool), v96 = .bool x96_39 ∧ Aside0 (paymasterlaw05_BracketsExact.j2 kq l0 a1 t283 t289 x96_39 = some r) ∧ Aside0 (kq ≤ kj20) ∧ Aside0 (Kd.R (Kd.int .i64) 3 wc w.heap.size (fun _ => True) v285 t283) ∧ Aside0 (Below w.heap.size w wc))
                case first =>
                  have H := HC40.out
                  clear HC40
                  by_cases c41 : (t283.length : Int) = (l0.length : Int)
                  · rw [if_pos c41] at H
                    have c41b0 : ((t283.length : Int) == (l0.length : Int)) = true := beq_iff_eq.mpr c41
                    have c41b1 : ((t283.length : Int) != (l0.length : Int)) = false := bne_eq_false_iff_eq.mpr c41
                    have c41b2 : (t283.length == l0.length) = true := by first | simpa using c41 | (simp at c41 ⊢; omega)
                    clear c41
                    (first | rw [c41b0] | (simp only [i64_w, i32_w]; rw [c41b0]) | skip)
                    by_cases c42 : t284 = 0
                    · rw [if_pos c42] at H
                      have c42b0 : (t284 == 0) = true := beq_iff_eq.mpr c42
                      have c42b1 : (t284 != 0) = false := bne_eq_false_iff_eq.mpr c42
                      clear c42
                      replace H := Option.bind_eq_some_iff.mp H
                      obtain ⟨t296, A430, H⟩ := H
                      replace H : (paymasterlaw05_BracketsExact.j2 kj20 l0 a1 t283 t289 (t287 != t296)) = some r := H
                      have A43 := Aside0.mk A430
                      clear A430
                      have H' := Aside0.mk H
                      clear H
                      obtain ⟨Ao44, co44, eo44⟩ := Kd.R_slice HO_5.out
                      subst eo44
                      go_wp2_with (first | (go_at_call 16; (with_reducible refine (paymasterref05_Tax.calls kj20 _ _ l0 a1 t296 _ ?side1 ?side2 A43.out).mono ?_); (case side1 => repeat (first | exact (Kd.C_below HR0.out HB.out) | (with_reducible refine Kd.C_alloc ?_ _) | (with_reducible refine Kd.C_drewN ?_ _) | (with_reducible refine Kd.C_drew ?_))); (case side2 => exact HC0.out); rintro e w45 ⟨rfl, hb⟩; have n0_ := Aside0.mk (Kd.R_below (by (with_reducible repeat (first | apply Kd.R_alloc | apply Kd.R_drewN | apply Kd.R_drew)); exact HO_5.out) hb); have n1_ := Aside0.mk (below_step (by repeat (first | (with_reducible first | exact HB.out | apply below_alloc | apply pw_below_drewN | apply below_drew1) | exact HB.out)) hb); clear HO_5; clear HB; have HO_5 := n0_; have HB := n1_; clear n0_ n1_; (try clear hb); (try clear hb2); (try clear hk); (try clear hi)))
                      repeat (go_quiet (first | (go_at_call 16; (with_reducible refine (paymasterref05_Tax.calls kj20 _ _ l0 a1 t296 _ ?side1 ?side2 A43.out).mono ?_); (case side1 => repeat (first | exact (Kd.C_below HR0.out HB.out) | (with_reducible refine Kd.C_alloc ?_ _) | (with_reducible refine Kd.C_drewN ?_ _) | (with_reducible refine Kd.C_drew ?_))); (case side2 => exact HC0.out); rintro e w45 ⟨rfl, hb⟩; have n0_ := Aside0.mk (Kd.R_below (by (with_reducible repeat (first | apply Kd.R_alloc | apply Kd.R_drewN | apply Kd.R_drew)); exact HO_5.out) hb); have n1_ := Aside0.mk (below_step (by repeat (first | (with_reducible first | exact HB.out | apply below_alloc | apply pw_below_drewN | apply below_drew1) | exact HB.out)) hb); clear HO_5; clear HB; have HO_5 := n0_; have HB := n1_; clear n0_ n1_; (try clear hb); (try clear hb2); (try clear hk); (try clear hi))); try go_wp2_with (first | (go_at_call 16; (with_reducible refine (paymasterref05_Tax.calls kj20 _ _ l0 a1 t296 _ ?side1 ?side2 A43.out).mono ?_); (case side1 => repeat (first | exact (Kd.C_below HR0.out HB.out) | (with_reducible refine Kd.C_alloc ?_ _) | (with_reducible refine Kd.C_drewN ?_ _) | (with_reducible refine Kd.C_drew ?_))); (case side2 => exact HC0.out); rintro e w45 ⟨rfl, hb⟩; have n0_ := Aside0.mk (Kd.R_below (by (with_reducible repeat (first | apply Kd.R_alloc | apply Kd.R_drewN | apply Kd.R_drew)); exact HO_5.out) hb); have n1_ := Aside0.mk (below_step (by repeat (first | (with_reducible first | exact HB.out | apply below_alloc | apply pw_below_drewN | apply below_drew1) | exact HB.out)) hb); clear HO_5; clear HB; have HO_5 := n0_; have HB := n1_; clear n0_ n1_; (try clear hb); (try clear hb2); (try clear hk); (try clear hi))))
                      go_meet
                      case rel => exact ⟨_, ((t287 != t296)), (by first | rfl | (simp; done) | (simp [*]; done)), H', ⟨by have := HJ9.out; have := HJ20.out; first | omega | exact Nat.le_refl _⟩, ⟨by (with_reducible repeat (first | apply Kd.R_alloc | apply Kd.R_drewN | apply Kd.R_drew)); exact HO_5.out⟩, ⟨by repeat (first | (with_reducible first | exact HB.out | apply below_alloc | apply pw_below_drewN | apply below_drew1) | exact HB.out)⟩⟩
                    · rw [if_neg c42] at H
                      have c42b0 : (t284 == 0) = false := beq_eq_false_iff_ne.mpr c42
                      have c42b1 : (t284 != 0) = true := bne_iff_ne.mpr c42
                      have H' := Aside0.mk H
                      clear H
                      obtain ⟨Ao46, co46, eo46⟩ := Kd.R_slice HO_5.out
                      subst eo46
                      go_wp2
                      repeat (go_quiet (fail); try go_wp2)
                      go_meet
                      case rel => exact ⟨_, (true), (by first | rfl | (simp; done) | (simp [*]; done)), H', ⟨by have := HJ9.out; have := HJ20.out; first | omega | exact Nat.le_refl _⟩, ⟨by (with_reducible repeat (first | apply Kd.R_alloc | apply Kd.R_drewN | apply Kd.R_drew)); exact HO_5.out⟩, ⟨by repeat (first | (with_reducible first | exact HB.out | apply below_alloc | apply pw_below_drewN | apply below_drew1) | exact HB.out)⟩⟩
                  · rw [if_neg c41] at H
                    have c41b0 : ((t283.length : Int) == (l0.length : Int)) = false := beq_eq_false_iff_ne.mpr c41
                    have c41b1 : ((t283.length : Int) != (l0.length : Int)) = true := bne_iff_ne.mpr c41
                    have c41b2 : (t283.length == l0.length) = false := by first | simpa using c41 | (simp at c41 ⊢; omega)
                    (first | rw [c41b0] | (simp only [i64_w, i32_w]; rw [c41b0]) | skip)
                    have H' := Aside0.mk H
                    clear H
                    obtain ⟨Ao47, co47, eo47⟩ := Kd.R_slice HO_5.out
                    subst eo47
                    go_wp2
                    repeat (go_quiet (fail); try go_wp2)
                    go_meet
                    case rel => exact ⟨_, (true), (by first | rfl | (simp; done) | (simp [*]; done)), H', ⟨by have := HJ9.out; have := HJ20.out; first | omega | exact Nat.le_refl _⟩, ⟨by (with_reducible repeat (first | apply Kd.R_alloc | apply Kd.R_drewN | apply Kd.R_drew)); exact HO_5.out⟩, ⟨by repeat (first | (with_reducible first | exact HB.out | apply below_alloc | apply pw_below_drewN | apply below_drew1) | exact HB.out)⟩⟩
                case rest =>
                  clear HC40
                  try clear c1
                  try clear c2
                  try clear p2
                  try clear c3
                  try clear c3b0
                  try clear c3b1
                  try clear c4
                  try clear c15
                  try clear c15b0
                  try clear c15b1
                  try clear c15b2
                  try clear c17
                  try clear c17b0
                  try clear c17b1
                  try clear c20
                  try clear c22
                  try clear c24
                  try clear c25
                  try clear c26
                  try clear c26b0
                  try clear c26b1
                  try clear c27
                  try clear c27b0
                  try clear c27b1
                  try clear c28
                  try clear c28b0
                  try clear c28b1
                  try clear c29
                  try clear c29b0
                  try clear c29b1
                  try clear c33
                  try clear c33b0
                  try clear c33b1
                  try clear c34
                  try clear c34b0
                  try clear c34b1
                  try clear c35
                  try clear c35b0
                  try clear c35b1
                  try clear c36
                  try clear c36b0
                  try clear c36b1
                  try clear c41
                  try clear c41b0
                  try clear c41b1
                  try clear c41b2
                  try clear c42
                  try clear c42b0
                  try clear c42b1
                  try clear p2
                  obtain ⟨kq, x96_39, rfl, HA, HJ39, HO_5, HB⟩ := hcut
                  cases kq with
                  | zero => exact absurd HA.out (by simp [paymasterlaw05_BracketsExact.j2])
                  | succ kj39 =>
                    have H := HA.out
                    clear HA
                    simp only [paymasterlaw05_BracketsExact.j2] at H
                    by_cases c48 : x96_39 = true
                    · subst c48
                      have H1 : (none) = some r := by rw [if_pos rfl] at H; exact H
                      clear H
                      have H := H1
                      clear H1
                      exact absurd H (by simp)
                    · replace c48 := Bool.eq_false_iff.mpr c48
                      subst c48
                      have H1 : (paymasterlaw05_BracketsExact.l0 kj39 l0 a1 t283 t289 0 l0 (l0.length : Int) 0) = some r := by rw [if_neg (show ¬ (false = true) by decide)] at H; exact H
                      clear H
                      have H := H1
                      clear H1
                      have H' := Aside0.mk H
                      clear H
                      go_wp2
                      repeat (go_quiet (fail); try go_wp2)
                      go_loopg [13, 99] kj39 (fun kq v13 v99 w' => ∃ (x13_4 : Int) (x99_4 : Int), v13 = .int .i64 x13_4 ∧ v99 = .int .i64 x99_4 ∧ Aside0 (paymasterlaw05_BracketsExact.l0 kq l0 a1 t283 t289 x13_4 l0 (l0.length : Int) x99_4 = some r) ∧ Aside0 (kq ≤ kj39) ∧ Aside0 (Kd.R (Kd.int .i64) 3 w' w.heap.size (fun _ => True) v285 t283) ∧ Aside0 (Below w.heap.size w w'))
                      case atStart => exact ⟨(0), (0), (by first | rfl | (simp; done) | (simp [*]; done)), (by first | rfl | (simp; done) | (simp [*]; done)), H', ⟨Nat.le_refl _⟩, ⟨by (with_reducible repeat (first | apply Kd.R_alloc | apply Kd.R_drewN | apply Kd.R_drew)); exact HO_5.out⟩, ⟨by repeat (first | (with_reducible first | exact HB.out | apply below_alloc | apply pw_below_drewN | apply below_drew1) | exact HB.out)⟩⟩
                      case round =>
                        clear H'
                        try clear c1
                        try clear c2
                        try clear p2
                        try clear c3
                        try clear c3b0
                        try clear c3b1
                        try clear c4
                        try clear c15
                        try clear c15b0
                        try clear c15b1
                        try clear c15b2
                        try clear c17
                        try clear c17b0
                        try clear c17b1
                        try clear c20
                        try clear c22
                        try clear c24
                        try clear c25
                        try clear c26
                        try clear c26b0
                        try clear c26b1
                        try clear c27
                        try clear c27b0
                        try clear c27b1
                        try clear c28
                        try clear c28b0
                        try clear c28b1
                        try clear c29
                        try clear c29b0
                        try clear c29b1
                        try clear c33
                        try clear c33b0
                        try clear c33b1
                        try clear c34
                        try clear c34b0
                        try clear c34b1
                        try clear c35
                        try clear c35b0
                        try clear c35b1
                        try clear c36
                        try clear c36b0
                        try clear c36b1
                        try clear c41
                        try clear c41b0
                        try clear c41b1
                        try clear c41b2
                        try clear c42
                        try clear c42b0
                        try clear c42b1
                        try clear c48
                        try clear p2
                        obtain ⟨x13_4, x99_4, rfl, rfl, HA, HK4, HO_5, HB⟩ := hrel
                        cases gk with
                        | zero => exact absurd HA.out (by simp [paymasterlaw05_BracketsExact.l0])
                        | succ k4 =>
                          have H := HA.out
                          clear HA
                          simp only [paymasterlaw05_BracketsExact.l0] at H
                          by_cases c49 : x99_4 < (l0.length : Int)
                          · rw [if_pos c49] at H
                            have c49b0 : decide (x99_4 < (l0.length : Int)) = true := decide_eq_true c49
                            clear c49
                            by_cases c50 : 0 ≤ x99_4
                            · rw [if_pos c50] at H
                              have c50b0 : decide (0 ≤ x99_4) = true := decide_eq_true c50
                              clear c50
                              by_cases c51 : x99_4 < (l0.length : Int)
                              · rw [if_pos c51] at H
                                have c51b0 : decide (x99_4 < (l0.length : Int)) = true := decide_eq_true c51
                                clear c51
                                by_cases c52 : x99_4 < (t283.length : Int)
                                · rw [if_pos c52] at H
                                  have c52b0 : decide (x99_4 < (t283.length : Int)) = true := decide_eq_true c52
                                  clear c52
                                  replace H := Option.bind_eq_some_iff.mp H
                                  obtain ⟨t301, A530, H⟩ := H
                                  replace H : (if (rd t283 x99_4) = t301 then (if a1 > ((rd_T34 l0 x99_4).f0) then (paymasterlaw05_BracketsExact.l0 k4 l0 a1 t283 t289 ((rd_T34 l0 x99_4).f1) l0 (l0.length : Int) (wrap64 (x99_4 + 1))) else (paymasterlaw05_BracketsExact.l0 k4 l0 a1 t283 t289 x13_4 l0 (l0.length : Int) (wrap64 (x99_4 + 1)))) else (none)) = some r := H
                                  have A53 := Aside0.mk A530
                                  clear A530
                                  by_cases c54 : (rd t283 x99_4) = t301
                                  · rw [if_pos c54] at H
                                    have c54b0 : ((rd t283 x99_4) == t301) = true := beq_iff_eq.mpr c54
                                    have c54b1 : ((rd t283 x99_4) != t301) = false := bne_eq_false_iff_eq.mpr c54
                                    clear c54
                                    by_cases c55 : a1 > ((rd_T34 l0 x99_4).f0)
                                    · rw [if_pos c55] at H
                                      have c55b0 : decide (((rd_T34 l0 x99_4).f0) < a1) = true := decide_eq_true c55
                                      clear c55
                                      have H' := Aside0.mk H
                                      clear H
                                      have p298 : 0 ≤ (x99_4 : Int) := of_decide_eq_true (by first | (with_reducible assumption) | assumption)
                                      have q298 : x99_4 < (l0.length : Int) := of_decide_eq_true (by first | (with_reducible assumption) | assumption)
                                      obtain ⟨ad298, e298, hx298_0, hx298_1⟩ := at_T34 HR0.out x99_4 p298 q298
                                      cases e298
                                      replace hx298_0 := (HB.out.cell (World.block_lt_of_cell? w _ hx298_0)).trans hx298_0
                                      replace hx298_1 := (HB.out.cell (World.block_lt_of_cell? w _ hx298_1)).trans hx298_1
                                      replace p298 := eq_true p298
                                      replace q298 := eq_true q298
                                      go_wp2_with (first | ((with_reducible refine gate_dst (N := 15) rfl ?_); refine box_event ?hg (N := 15) ?hd (cs := #[.int .i64 0, .int .i64 0]) (t := 34) ?hr ?_; (case hd => rfl); (case hg => rfl); (case hr => first | (go_simp; done) | (go_simp; rfl)); intro gb299 hg w56 hbox hb; have n0_ := Aside0.mk (Kd.R_below (by (with_reducible repeat (first | apply Kd.R_alloc | apply Kd.R_drewN | apply Kd.R_drew)); exact HO_5.out) hb); have n1_ := Aside0.mk (below_step (by repeat (first | (with_reducible first | exact HB.out | apply below_alloc | apply pw_below_drewN | apply below_drew1) | exact HB.out)) hb); have n2_ := Aside0.mk (hbox); have n3_ := Aside0.mk ((by rw [hg]; exact (below_size (by repeat (first | (with_reducible first | exact HB.out | apply below_alloc | apply pw_below_drewN | apply below_drew1) | exact HB.out))) : w.heap.size ≤ gb299)); have n4_ := Aside0.mk ((by rw [hg]; exact (below_size (by repeat (first | (with_reducible first | exact HB.out | apply below_alloc | apply pw_below_drewN | apply below_drew1) | exact HB.out))) : w.heap.size ≤ gb299)); clear HO_5; clear HB; have HO_5 := n0_; have HB := n1_; have BK299 := n2_; have GW299 := n3_; have GE299 := n4_; clear n0_ n1_ n2_ n3_ n4_; clear hb hbox hg; have hcz57_0 : w56.cell? ⟨gb299, 0, none⟩ = some (.int .i64 0) := (blk_cell BK299.out 0).trans rfl; have hcz57_1 : w56.cell? ⟨gb299, 1, none⟩ = some (.int .i64 0) := (blk_cell BK299.out 1).trans rfl; have hfz57_0 := blk_frozen BK299.out 0; have hfz57_1 := blk_frozen BK299.out 1; obtain ⟨Ao58, co58, eo58⟩ := Kd.R_slice HO_5.out; subst eo58; have p300 : 0 ≤ (x99_4 : Int) := of_decide_eq_true (by first | (with_reducible assumption) | assumption); have q300 : x99_4 < (t283.length : Int) := of_decide_eq_true (by first | (with_reducible assumption) | assumption); obtain ⟨ad300, e300, hx300_0⟩ := Kd.at_int (Kd.R_reads' HO_5.out).2.2 x99_4 p300 q300; cases e300; have hn300_0 : ad300.block ≠ gb299 := Kd.own_blk (Kd.R_ne HO_5.out BK299.out (by decide)); have hn300_1 : ad300.block ≠ gb299 := Kd.own_blk (Kd.R_ne HO_5.out BK299.out (by decide)); replace hx300_0 := (cell_far (p := ⟨gb299, 0, none⟩) (by first | (rw [add_block]; exact hn300_0) | (show (Addr.add _ _).block ≠ _; rw [add_block]; exact hn300_0) | exact hn300_0) (.int .i64 ((rd_T34 l0 x99_4).f0))).trans hx300_0; replace hx300_0 := (cell_far (p := ⟨gb299, 1, none⟩) (by first | (rw [add_block]; exact hn300_1) | (show (Addr.add _ _).block ≠ _; rw [add_block]; exact hn300_1) | exact hn300_1) (.int .i64 ((rd_T34 l0 x99_4).f1))).trans hx300_0; (try have hy300_0 := fun (n_ : Nat) => (show ((((w56.drewN n_).setCell ⟨gb299, 0, none⟩ (.int .i64 ((rd_T34 l0 x99_4).f0))).setCell ⟨gb299, 1, none⟩ (.int .i64 ((rd_T34 l0 x99_4).f1)))).cell? _ = some _ from hx300_0)); clear hn300_0; clear hn300_1; replace p300 := eq_true p300; replace q300 := eq_true q300) | (go_at_call 17; (with_reducible refine (paymasterref05_Part.calls _ _ l0 x99_4 a1 t301 _ ?side1 ?side2 A53.out).mono ?_); (case side1 => exact Kd.C_below HR0.out (by repeat (first | (with_reducible first | exact HB.out | apply below_alloc | apply pw_below_drewN | apply below_drew1 | refine below_set ?_ GE299.out) | exact HB.out))); (case side2 => exact HC0.out); rintro e w' ⟨rfl, ⟨nd, rfl⟩⟩; (try first | exact ⟨rfl, _, World.drewN_drewN _ _ _⟩ | exact ⟨rfl, _, Eq.trans (World.drewN_drewN _ _ _) (congrArg (World.drewN _) (Nat.add_assoc _ _ _))⟩)))
                                      repeat (go_quiet (first | ((with_reducible refine gate_dst (N := 15) rfl ?_); refine box_event ?hg (N := 15) ?hd (cs := #[.int .i64 0, .int .i64 0]) (t := 34) ?hr ?_; (case hd => rfl); (case hg => rfl); (case hr => first | (go_simp; done) | (go_simp; rfl)); intro gb299 hg w56 hbox hb; have n0_ := Aside0.mk (Kd.R_below (by (with_reducible repeat (first | apply Kd.R_alloc | apply Kd.R_drewN | apply Kd.R_drew)); exact HO_5.out) hb); have n1_ := Aside0.mk (below_step (by repeat (first | (with_reducible first | exact HB.out | apply below_alloc | apply pw_below_drewN | apply below_drew1) | exact HB.out)) hb); have n2_ := Aside0.mk (hbox); have n3_ := Aside0.mk ((by rw [hg]; exact (below_size (by repeat (first | (with_reducible first | exact HB.out | apply below_alloc | apply pw_below_drewN | apply below_drew1) | exact HB.out))) : w.heap.size ≤ gb299)); have n4_ := Aside0.mk ((by rw [hg]; exact (below_size (by repeat (first | (with_reducible first | exact HB.out | apply below_alloc | apply pw_below_drewN | apply below_drew1) | exact HB.out))) : w.heap.size ≤ gb299)); clear HO_5; clear HB; have HO_5 := n0_; have HB := n1_; have BK299 := n2_; have GW299 := n3_; have GE299 := n4_; clear n0_ n1_ n2_ n3_ n4_; clear hb hbox hg; have hcz57_0 : w56.cell? ⟨gb299, 0, none⟩ = some (.int .i64 0) := (blk_cell BK299.out 0).trans rfl; have hcz57_1 : w56.cell? ⟨gb299, 1, none⟩ = some (.int .i64 0) := (blk_cell BK299.out 1).trans rfl; have hfz57_0 := blk_frozen BK299.out 0; have hfz57_1 := blk_frozen BK299.out 1; obtain ⟨Ao58, co58, eo58⟩ := Kd.R_slice HO_5.out; subst eo58; have p300 : 0 ≤ (x99_4 : Int) := of_decide_eq_true (by first | (with_reducible assumption) | assumption); have q300 : x99_4 < (t283.length : Int) := of_decide_eq_true (by first | (with_reducible assumption) | assumption); obtain ⟨ad300, e300, hx300_0⟩ := Kd.at_int (Kd.R_reads' HO_5.out).2.2 x99_4 p300 q300; cases e300; have hn300_0 : ad300.block ≠ gb299 := Kd.own_blk (Kd.R_ne HO_5.out BK299.out (by decide)); have hn300_1 : ad300.block ≠ gb299 := Kd.own_blk (Kd.R_ne HO_5.out BK299.out (by decide)); replace hx300_0 := (cell_far (p := ⟨gb299, 0, none⟩) (by first | (rw [add_block]; exact hn300_0) | (show (Addr.add _ _).block ≠ _; rw [add_block]; exact hn300_0) | exact hn300_0) (.int .i64 ((rd_T34 l0 x99_4).f0))).trans hx300_0; replace hx300_0 := (cell_far (p := ⟨gb299, 1, none⟩) (by first | (rw [add_block]; exact hn300_1) | (show (Addr.add _ _).block ≠ _; rw [add_block]; exact hn300_1) | exact hn300_1) (.int .i64 ((rd_T34 l0 x99_4).f1))).trans hx300_0; (try have hy300_0 := fun (n_ : Nat) => (show ((((w56.drewN n_).setCell ⟨gb299, 0, none⟩ (.int .i64 ((rd_T34 l0 x99_4).f0))).setCell ⟨gb299, 1, none⟩ (.int .i64 ((rd_T34 l0 x99_4).f1)))).cell? _ = some _ from hx300_0)); clear hn300_0; clear hn300_1; replace p300 := eq_true p300; replace q300 := eq_true q300) | (go_at_call 17; (with_reducible refine (paymasterref05_Part.calls _ _ l0 x99_4 a1 t301 _ ?side1 ?side2 A53.out).mono ?_); (case side1 => exact Kd.C_below HR0.out (by repeat (first | (with_reducible first | exact HB.out | apply below_alloc | apply pw_below_drewN | apply below_drew1 | refine below_set ?_ GE299.out) | exact HB.out))); (case side2 => exact HC0.out); rintro e w' ⟨rfl, ⟨nd, rfl⟩⟩; (try first | exact ⟨rfl, _, World.drewN_drewN _ _ _⟩ | exact ⟨rfl, _, Eq.trans (World.drewN_drewN _ _ _) (congrArg (World.drewN _) (Nat.add_assoc _ _ _))⟩))); try go_wp2_with (first | ((with_reducible refine gate_dst (N := 15) rfl ?_); refine box_event ?hg (N := 15) ?hd (cs := #[.int .i64 0, .int .i64 0]) (t := 34) ?hr ?_; (case hd => rfl); (case hg => rfl); (case hr => first | (go_simp; done) | (go_simp; rfl)); intro gb299 hg w56 hbox hb; have n0_ := Aside0.mk (Kd.R_below (by (with_reducible repeat (first | apply Kd.R_alloc | apply Kd.R_drewN | apply Kd.R_drew)); exact HO_5.out) hb); have n1_ := Aside0.mk (below_step (by repeat (first | (with_reducible first | exact HB.out | apply below_alloc | apply pw_below_drewN | apply below_drew1) | exact HB.out)) hb); have n2_ := Aside0.mk (hbox); have n3_ := Aside0.mk ((by rw [hg]; exact (below_size (by repeat (first | (with_reducible first | exact HB.out | apply below_alloc | apply pw_below_drewN | apply below_drew1) | exact HB.out))) : w.heap.size ≤ gb299)); have n4_ := Aside0.mk ((by rw [hg]; exact (below_size (by repeat (first | (with_reducible first | exact HB.out | apply below_alloc | apply pw_below_drewN | apply below_drew1) | exact HB.out))) : w.heap.size ≤ gb299)); clear HO_5; clear HB; have HO_5 := n0_; have HB := n1_; have BK299 := n2_; have GW299 := n3_; have GE299 := n4_; clear n0_ n1_ n2_ n3_ n4_; clear hb hbox hg; have hcz57_0 : w56.cell? ⟨gb299, 0, none⟩ = some (.int .i64 0) := (blk_cell BK299.out 0).trans rfl; have hcz57_1 : w56.cell? ⟨gb299, 1, none⟩ = some (.int .i64 0) := (blk_cell BK299.out 1).trans rfl; have hfz57_0 := blk_frozen BK299.out 0; have hfz57_1 := blk_frozen BK299.out 1; obtain ⟨Ao58, co58, eo58⟩ := Kd.R_slice HO_5.out; subst eo58; have p300 : 0 ≤ (x99_4 : Int) := of_decide_eq_true (by first | (with_reducible assumption) | assumption); have q300 : x99_4 < (t283.length : Int) := of_decide_eq_true (by first | (with_reducible assumption) | assumption); obtain ⟨ad300, e300, hx300_0⟩ := Kd.at_int (Kd.R_reads' HO_5.out).2.2 x99_4 p300 q300; cases e300; have hn300_0 : ad300.block ≠ gb299 := Kd.own_blk (Kd.R_ne HO_5.out BK299.out (by decide)); have hn300_1 : ad300.block ≠ gb299 := Kd.own_blk (Kd.R_ne HO_5.out BK299.out (by decide)); replace hx300_0 := (cell_far (p := ⟨gb299, 0, none⟩) (by first | (rw [add_block]; exact hn300_0) | (show (Addr.add _ _).block ≠ _; rw [add_block]; exact hn300_0) | exact hn300_0) (.int .i64 ((rd_T34 l0 x99_4).f0))).trans hx300_0; replace hx300_0 := (cell_far (p := ⟨gb299, 1, none⟩) (by first | (rw [add_block]; exact hn300_1) | (show (Addr.add _ _).block ≠ _; rw [add_block]; exact hn300_1) | exact hn300_1) (.int .i64 ((rd_T34 l0 x99_4).f1))).trans hx300_0; (try have hy300_0 := fun (n_ : Nat) => (show ((((w56.drewN n_).setCell ⟨gb299, 0, none⟩ (.int .i64 ((rd_T34 l0 x99_4).f0))).setCell ⟨gb299, 1, none⟩ (.int .i64 ((rd_T34 l0 x99_4).f1)))).cell? _ = some _ from hx300_0)); clear hn300_0; clear hn300_1; replace p300 := eq_true p300; replace q300 := eq_true q300) | (go_at_call 17; (with_reducible refine (paymasterref05_Part.calls _ _ l0 x99_4 a1 t301 _ ?side1 ?side2 A53.out).mono ?_); (case side1 => exact Kd.C_below HR0.out (by repeat (first | (with_reducible first | exact HB.out | apply below_alloc | apply pw_below_drewN | apply below_drew1 | refine below_set ?_ GE299.out) | exact HB.out))); (case side2 => exact HC0.out); rintro e w' ⟨rfl, ⟨nd, rfl⟩⟩; (try first | exact ⟨rfl, _, World.drewN_drewN _ _ _⟩ | exact ⟨rfl, _, Eq.trans (World.drewN_drewN _ _ _) (congrArg (World.drewN _) (Nat.add_assoc _ _ _))⟩))))
                                      go_roundg k4
                                      case measure => have := HJ9.out; have := HJ20.out; have := HJ39.out; have := HK4.out; omega
                                      case rel => exact ⟨((rd_T34 l0 x99_4).f1), (wrap64 (x99_4 + 1)), (by first | rfl | (simp; done) | (simp [*]; done)), (by first | rfl | (simp; done) | (simp [*]; done)), H', ⟨by have := HJ9.out; have := HJ20.out; have := HJ39.out; have := HK4.out; omega⟩, ⟨by (with_reducible repeat (first | apply Kd.R_alloc | apply Kd.R_drewN | apply Kd.R_drew)); exact Kd.R_mono (Kd.R_far (p := ⟨gb299, 1, none⟩) (Kd.R_far (p := ⟨gb299, 0, none⟩) (Kd.R_types HO_5.out BK299.out (by decide)) (fun _ hk => hk.2) (.int .i64 ((rd_T34 l0 x99_4).f0))) (fun _ hk => hk.2) (.int .i64 ((rd_T34 l0 x99_4).f1))) (fun _ hk => trivial)⟩, ⟨by repeat (first | (with_reducible first | exact HB.out | apply below_alloc | apply pw_below_drewN | apply below_drew1 | refine below_set ?_ GE299.out) | exact HB.out)⟩⟩
                                    · rw [if_neg c55] at H
                                      have c55b0 : decide (((rd_T34 l0 x99_4).f0) < a1) = false := decide_eq_false c55
                                      clear c55
                                      have H' := Aside0.mk H
                                      clear H
                                      have p298 : 0 ≤ (x99_4 : Int) := of_decide_eq_true (by first | (with_reducible assumption) | assumption)
                                      have q298 : x99_4 < (l0.length : Int) := of_decide_eq_true (by first | (with_reducible assumption) | assumption)
                                      obtain ⟨ad298, e298, hx298_0, hx298_1⟩ := at_T34 HR0.out x99_4 p298 q298
                                      cases e298
                                      replace hx298_0 := (HB.out.cell (World.block_lt_of_cell? w _ hx298_0)).trans hx298_0
                                      replace hx298_1 := (HB.out.cell (World.block_lt_of_cell? w _ hx298_1)).trans hx298_1
                                      replace p298 := eq_true p298
                                      replace q298 := eq_true q298
                                      go_wp2_with (first | ((with_reducible refine gate_dst (N := 15) rfl ?_); refine box_event ?hg (N := 15) ?hd (cs := #[.int .i64 0, .int .i64 0]) (t := 34) ?hr ?_; (case hd => rfl); (case hg => rfl); (case hr => first | (go_simp; done) | (go_simp; rfl)); intro gb299 hg w59 hbox hb; have n0_ := Aside0.mk (Kd.R_below (by (with_reducible repeat (first | apply Kd.R_alloc | apply Kd.R_drewN | apply Kd.R_drew)); exact HO_5.out) hb); have n1_ := Aside0.mk (below_step (by repeat (first | (with_reducible first | exact HB.out | apply below_alloc | apply pw_below_drewN | apply below_drew1) | exact HB.out)) hb); have n2_ := Aside0.mk (hbox); have n3_ := Aside0.mk ((by rw [hg]; exact (below_size (by repeat (first | (with_reducible first | exact HB.out | apply below_alloc | apply pw_below_drewN | apply below_drew1) | exact HB.out))) : w.heap.size ≤ gb299)); have n4_ := Aside0.mk ((by rw [hg]; exact (below_size (by repeat (first | (with_reducible first | exact HB.out | apply below_alloc | apply pw_below_drewN | apply below_drew1) | exact HB.out))) : w.heap.size ≤ gb299)); clear HO_5; clear HB; have HO_5 := n0_; have HB := n1_; have BK299 := n2_; have GW299 := n3_; have GE299 := n4_; clear n0_ n1_ n2_ n3_ n4_; clear hb hbox hg; have hcz60_0 : w59.cell? ⟨gb299, 0, none⟩ = some (.int .i64 0) := (blk_cell BK299.out 0).trans rfl; have hcz60_1 : w59.cell? ⟨gb299, 1, none⟩ = some (.int .i64 0) := (blk_cell BK299.out 1).trans rfl; have hfz60_0 := blk_frozen BK299.out 0; have hfz60_1 := blk_frozen BK299.out 1; obtain ⟨Ao61, co61, eo61⟩ := Kd.R_slice HO_5.out; subst eo61; have p300 : 0 ≤ (x99_4 : Int) := of_decide_eq_true (by first | (with_reducible assumption) | assumption); have q300 : x99_4 < (t283.length : Int) := of_decide_eq_true (by first | (with_reducible assumption) | assumption); obtain ⟨ad300, e300, hx300_0⟩ := Kd.at_int (Kd.R_reads' HO_5.out).2.2 x99_4 p300 q300; cases e300; have hn300_0 : ad300.block ≠ gb299 := Kd.own_blk (Kd.R_ne HO_5.out BK299.out (by decide)); have hn300_1 : ad300.block ≠ gb299 := Kd.own_blk (Kd.R_ne HO_5.out BK299.out (by decide)); replace hx300_0 := (cell_far (p := ⟨gb299, 0, none⟩) (by first | (rw [add_block]; exact hn300_0) | (show (Addr.add _ _).block ≠ _; rw [add_block]; exact hn300_0) | exact hn300_0) (.int .i64 ((rd_T34 l0 x99_4).f0))).trans hx300_0; replace hx300_0 := (cell_far (p := ⟨gb299, 1, none⟩) (by first | (rw [add_block]; exact hn300_1) | (show (Addr.add _ _).block ≠ _; rw [add_block]; exact hn300_1) | exact hn300_1) (.int .i64 ((rd_T34 l0 x99_4).f1))).trans hx300_0; (try have hy300_0 := fun (n_ : Nat) => (show ((((w59.drewN n_).setCell ⟨gb299, 0, none⟩ (.int .i64 ((rd_T34 l0 x99_4).f0))).setCell ⟨gb299, 1, none⟩ (.int .i64 ((rd_T34 l0 x99_4).f1)))).cell? _ = some _ from hx300_0)); clear hn300_0; clear hn300_1; replace p300 := eq_true p300; replace q300 := eq_true q300) | (go_at_call 17; (with_reducible refine (paymasterref05_Part.calls _ _ l0 x99_4 a1 t301 _ ?side1 ?side2 A53.out).mono ?_); (case side1 => exact Kd.C_below HR0.out (by repeat (first | (with_reducible first | exact HB.out | apply below_alloc | apply pw_below_drewN | apply below_drew1 | refine below_set ?_ GE299.out) | exact HB.out))); (case side2 => exact HC0.out); rintro e w' ⟨rfl, ⟨nd, rfl⟩⟩; (try first | exact ⟨rfl, _, World.drewN_drewN _ _ _⟩ | exact ⟨rfl, _, Eq.trans (World.drewN_drewN _ _ _) (congrArg (World.drewN _) (Nat.add_assoc _ _ _))⟩)))
                                      repeat (go_quiet (first | ((with_reducible refine gate_dst (N := 15) rfl ?_); refine box_event ?hg (N := 15) ?hd (cs := #[.int .i64 0, .int .i64 0]) (t := 34) ?hr ?_; (case hd => rfl); (case hg => rfl); (case hr => first | (go_simp; done) | (go_simp; rfl)); intro gb299 hg w59 hbox hb; have n0_ := Aside0.mk (Kd.R_below (by (with_reducible repeat (first | apply Kd.R_alloc | apply Kd.R_drewN | apply Kd.R_drew)); exact HO_5.out) hb); have n1_ := Aside0.mk (below_step (by repeat (first | (with_reducible first | exact HB.out | apply below_alloc | apply pw_below_drewN | apply below_drew1) | exact HB.out)) hb); have n2_ := Aside0.mk (hbox); have n3_ := Aside0.mk ((by rw [hg]; exact (below_size (by repeat (first | (with_reducible first | exact HB.out | apply below_alloc | apply pw_below_drewN | apply below_drew1) | exact HB.out))) : w.heap.size ≤ gb299)); have n4_ := Aside0.mk ((by rw [hg]; exact (below_size (by repeat (first | (with_reducible first | exact HB.out | apply below_alloc | apply pw_below_drewN | apply below_drew1) | exact HB.out))) : w.heap.size ≤ gb299)); clear HO_5; clear HB; have HO_5 := n0_; have HB := n1_; have BK299 := n2_; have GW299 := n3_; have GE299 := n4_; clear n0_ n1_ n2_ n3_ n4_; clear hb hbox hg; have hcz60_0 : w59.cell? ⟨gb299, 0, none⟩ = some (.int .i64 0) := (blk_cell BK299.out 0).trans rfl; have hcz60_1 : w59.cell? ⟨gb299, 1, none⟩ = some (.int .i64 0) := (blk_cell BK299.out 1).trans rfl; have hfz60_0 := blk_frozen BK299.out 0; have hfz60_1 := blk_frozen BK299.out 1; obtain ⟨Ao61, co61, eo61⟩ := Kd.R_slice HO_5.out; subst eo61; have p300 : 0 ≤ (x99_4 : Int) := of_decide_eq_true (by first | (with_reducible assumption) | assumption); have q300 : x99_4 < (t283.length : Int) := of_decide_eq_true (by first | (with_reducible assumption) | assumption); obtain ⟨ad300, e300, hx300_0⟩ := Kd.at_int (Kd.R_reads' HO_5.out).2.2 x99_4 p300 q300; cases e300; have hn300_0 : ad300.block ≠ gb299 := Kd.own_blk (Kd.R_ne HO_5.out BK299.out (by decide)); have hn300_1 : ad300.block ≠ gb299 := Kd.own_blk (Kd.R_ne HO_5.out BK299.out (by decide)); replace hx300_0 := (cell_far (p := ⟨gb299, 0, none⟩) (by first | (rw [add_block]; exact hn300_0) | (show (Addr.add _ _).block ≠ _; rw [add_block]; exact hn300_0) | exact hn300_0) (.int .i64 ((rd_T34 l0 x99_4).f0))).trans hx300_0; replace hx300_0 := (cell_far (p := ⟨gb299, 1, none⟩) (by first | (rw [add_block]; exact hn300_1) | (show (Addr.add _ _).block ≠ _; rw [add_block]; exact hn300_1) | exact hn300_1) (.int .i64 ((rd_T34 l0 x99_4).f1))).trans hx300_0; (try have hy300_0 := fun (n_ : Nat) => (show ((((w59.drewN n_).setCell ⟨gb299, 0, none⟩ (.int .i64 ((rd_T34 l0 x99_4).f0))).setCell ⟨gb299, 1, none⟩ (.int .i64 ((rd_T34 l0 x99_4).f1)))).cell? _ = some _ from hx300_0)); clear hn300_0; clear hn300_1; replace p300 := eq_true p300; replace q300 := eq_true q300) | (go_at_call 17; (with_reducible refine (paymasterref05_Part.calls _ _ l0 x99_4 a1 t301 _ ?side1 ?side2 A53.out).mono ?_); (case side1 => exact Kd.C_below HR0.out (by repeat (first | (with_reducible first | exact HB.out | apply below_alloc | apply pw_below_drewN | apply below_drew1 | refine below_set ?_ GE299.out) | exact HB.out))); (case side2 => exact HC0.out); rintro e w' ⟨rfl, ⟨nd, rfl⟩⟩; (try first | exact ⟨rfl, _, World.drewN_drewN _ _ _⟩ | exact ⟨rfl, _, Eq.trans (World.drewN_drewN _ _ _) (congrArg (World.drewN _) (Nat.add_assoc _ _ _))⟩))); try go_wp2_with (first | ((with_reducible refine gate_dst (N := 15) rfl ?_); refine box_event ?hg (N := 15) ?hd (cs := #[.int .i64 0, .int .i64 0]) (t := 34) ?hr ?_; (case hd => rfl); (case hg => rfl); (case hr => first | (go_simp; done) | (go_simp; rfl)); intro gb299 hg w59 hbox hb; have n0_ := Aside0.mk (Kd.R_below (by (with_reducible repeat (first | apply Kd.R_alloc | apply Kd.R_drewN | apply Kd.R_drew)); exact HO_5.out) hb); have n1_ := Aside0.mk (below_step (by repeat (first | (with_reducible first | exact HB.out | apply below_alloc | apply pw_below_drewN | apply below_drew1) | exact HB.out)) hb); have n2_ := Aside0.mk (hbox); have n3_ := Aside0.mk ((by rw [hg]; exact (below_size (by repeat (first | (with_reducible first | exact HB.out | apply below_alloc | apply pw_below_drewN | apply below_drew1) | exact HB.out))) : w.heap.size ≤ gb299)); have n4_ := Aside0.mk ((by rw [hg]; exact (below_size (by repeat (first | (with_reducible first | exact HB.out | apply below_alloc | apply pw_below_drewN | apply below_drew1) | exact HB.out))) : w.heap.size ≤ gb299)); clear HO_5; clear HB; have HO_5 := n0_; have HB := n1_; have BK299 := n2_; have GW299 := n3_; have GE299 := n4_; clear n0_ n1_ n2_ n3_ n4_; clear hb hbox hg; have hcz60_0 : w59.cell? ⟨gb299, 0, none⟩ = some (.int .i64 0) := (blk_cell BK299.out 0).trans rfl; have hcz60_1 : w59.cell? ⟨gb299, 1, none⟩ = some (.int .i64 0) := (blk_cell BK299.out 1).trans rfl; have hfz60_0 := blk_frozen BK299.out 0; have hfz60_1 := blk_frozen BK299.out 1; obtain ⟨Ao61, co61, eo61⟩ := Kd.R_slice HO_5.out; subst eo61; have p300 : 0 ≤ (x99_4 : Int) := of_decide_eq_true (by first | (with_reducible assumption) | assumption); have q300 : x99_4 < (t283.length : Int) := of_decide_eq_true (by first | (with_reducible assumption) | assumption); obtain ⟨ad300, e300, hx300_0⟩ := Kd.at_int (Kd.R_reads' HO_5.out).2.2 x99_4 p300 q300; cases e300; have hn300_0 : ad300.block ≠ gb299 := Kd.own_blk (Kd.R_ne HO_5.out BK299.out (by decide)); have hn300_1 : ad300.block ≠ gb299 := Kd.own_blk (Kd.R_ne HO_5.out BK299.out (by decide)); replace hx300_0 := (cell_far (p := ⟨gb299, 0, none⟩) (by first | (rw [add_block]; exact hn300_0) | (show (Addr.add _ _).block ≠ _; rw [add_block]; exact hn300_0) | exact hn300_0) (.int .i64 ((rd_T34 l0 x99_4).f0))).trans hx300_0; replace hx300_0 := (cell_far (p := ⟨gb299, 1, none⟩) (by first | (rw [add_block]; exact hn300_1) | (show (Addr.add _ _).block ≠ _; rw [add_block]; exact hn300_1) | exact hn300_1) (.int .i64 ((rd_T34 l0 x99_4).f1))).trans hx300_0; (try have hy300_0 := fun (n_ : Nat) => (show ((((w59.drewN n_).setCell ⟨gb299, 0, none⟩ (.int .i64 ((rd_T34 l0 x99_4).f0))).setCell ⟨gb299, 1, none⟩ (.int .i64 ((rd_T34 l0 x99_4).f1)))).cell? _ = some _ from hx300_0)); clear hn300_0; clear hn300_1; replace p300 := eq_true p300; replace q300 := eq_true q300) | (go_at_call 17; (with_reducible refine (paymasterref05_Part.calls _ _ l0 x99_4 a1 t301 _ ?side1 ?side2 A53.out).mono ?_); (case side1 => exact Kd.C_below HR0.out (by repeat (first | (with_reducible first | exact HB.out | apply below_alloc | apply pw_below_drewN | apply below_drew1 | refine below_set ?_ GE299.out) | exact HB.out))); (case side2 => exact HC0.out); rintro e w' ⟨rfl, ⟨nd, rfl⟩⟩; (try first | exact ⟨rfl, _, World.drewN_drewN _ _ _⟩ | exact ⟨rfl, _, Eq.trans (World.drewN_drewN _ _ _) (congrArg (World.drewN _) (Nat.add_assoc _ _ _))⟩))))
                                      go_roundg k4
                                      case measure => have := HJ9.out; have := HJ20.out; have := HJ39.out; have := HK4.out; omega
                                      case rel => exact ⟨(x13_4), (wrap64 (x99_4 + 1)), (by first | rfl | (simp; done) | (simp [*]; done)), (by first | rfl | (simp; done) | (simp [*]; done)), H', ⟨by have := HJ9.out; have := HJ20.out; have := HJ39.out; have := HK4.out; omega⟩, ⟨by (with_reducible repeat (first | apply Kd.R_alloc | apply Kd.R_drewN | apply Kd.R_drew)); exact Kd.R_mono (Kd.R_far (p := ⟨gb299, 1, none⟩) (Kd.R_far (p := ⟨gb299, 0, none⟩) (Kd.R_types HO_5.out BK299.out (by decide)) (fun _ hk => hk.2) (.int .i64 ((rd_T34 l0 x99_4).f0))) (fun _ hk => hk.2) (.int .i64 ((rd_T34 l0 x99_4).f1))) (fun _ hk => trivial)⟩, ⟨by repeat (first | (with_reducible first | exact HB.out | apply below_alloc | apply pw_below_drewN | apply below_drew1 | refine below_set ?_ GE299.out) | exact HB.out)⟩⟩
                                  · rw [if_neg c54] at H
                                    exact absurd H (by simp)
                                · rw [if_neg c52] at H
                                  exact absurd H (by simp)
                              · rw [if_neg c51] at H
                                exact absurd H (by simp)
                            · rw [if_neg c50] at H
                              exact absurd H (by simp)
                          · rw [if_neg c49] at H
                            have c49b0 : decide (x99_4 < (l0.length : Int)) = false := decide_eq_false c49
                            clear c49
                            by_cases c62 : t289 = x13_4
                            · rw [if_pos c62] at H
                              have c62b0 : (t289 == x13_4) = true := beq_iff_eq.mpr c62
                              have c62b1 : (t289 != x13_4) = false := bne_eq_false_iff_eq.mpr c62
                              clear c62
                              replace H := Option.bind_eq_some_iff.mp H
                              obtain ⟨t297, A630, H⟩ := H
                              replace H : (some t297) = some r := H
                              have A63 := Aside0.mk A630
                              clear A630
                              obtain rfl := Option.some.inj H
                              go_wp2_with (first | (go_at_call 9; (with_reducible refine (paymasterlaw05_awake.calls k4  t297 _ A63.out).mono ?_); rintro e w64 ⟨rfl, hb⟩; have n0_ := Aside0.mk (Kd.R_below (by (with_reducible repeat (first | apply Kd.R_alloc | apply Kd.R_drewN | apply Kd.R_drew)); exact HO_5.out) hb); have n1_ := Aside0.mk (below_step (by repeat (first | (with_reducible first | exact HB.out | apply below_alloc | apply pw_below_drewN | apply below_drew1) | exact HB.out)) hb); clear HO_5; clear HB; have HO_5 := n0_; have HB := n1_; clear n0_ n1_; (try clear hb); (try clear hb2); (try clear hk); (try clear hi)))
                              repeat (go_quiet (first | (go_at_call 9; (with_reducible refine (paymasterlaw05_awake.calls k4  t297 _ A63.out).mono ?_); rintro e w64 ⟨rfl, hb⟩; have n0_ := Aside0.mk (Kd.R_below (by (with_reducible repeat (first | apply Kd.R_alloc | apply Kd.R_drewN | apply Kd.R_drew)); exact HO_5.out) hb); have n1_ := Aside0.mk (below_step (by repeat (first | (with_reducible first | exact HB.out | apply below_alloc | apply pw_below_drewN | apply below_drew1) | exact HB.out)) hb); clear HO_5; clear HB; have HO_5 := n0_; have HB := n1_; clear n0_ n1_; (try clear hb); (try clear hb2); (try clear hk); (try clear hi))); try go_wp2_with (first | (go_at_call 9; (with_reducible refine (paymasterlaw05_awake.calls k4  t297 _ A63.out).mono ?_); rintro e w64 ⟨rfl, hb⟩; have n0_ := Aside0.mk (Kd.R_below (by (with_reducible repeat (first | apply Kd.R_alloc | apply Kd.R_drewN | apply Kd.R_drew)); exact HO_5.out) hb); have n1_ := Aside0.mk (below_step (by repeat (first | (with_reducible first | exact HB.out | apply below_alloc | apply pw_below_drewN | apply below_drew1) | exact HB.out)) hb); clear HO_5; clear HB; have HO_5 := n0_; have HB := n1_; clear n0_ n1_; (try clear hb); (try clear hb2); (try clear hk); (try clear hi))))
                              go_ret
                              exact ⟨by first | rfl | (simp [errW_none, errW_some] <;> rfl) | (simp [*, errW_none, errW_some] <;> rfl), by repeat (first | (with_reducible first | exact HB.out | apply below_alloc | apply pw_below_drewN | apply below_drew1) | exact HB.out)⟩
                            · rw [if_neg c62] at H
                              exact absurd H (by simp)

end Go.Proofs.Ytnhcpnodleifmaa.PA
