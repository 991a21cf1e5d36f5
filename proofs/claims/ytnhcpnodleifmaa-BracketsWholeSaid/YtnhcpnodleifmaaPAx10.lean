/- Contracts of the functions of the given program: written by wip/pmprint.py, a program of this session, which runs the print of the kit over altered functions. -/
import Derived.Test.YtnhcpnodleifmaaPAx0
import Derived.Test.YtnhcpnodleifmaaPAx1
import Derived.Test.YtnhcpnodleifmaaPAx3
import Derived.Test.YtnhcpnodleifmaaPAx4
namespace Go.Proofs.Ytnhcpnodleifmaa.PA
open Go.RowKit Go.Proofs.YtnhcpnodleifmaaW.PrintWords Go.Proofs.YtnhcpnodleifmaaW.PrintLast Go.Proofs.YtnhcpnodleifmaaW.PrintMore
attribute [local go_sem] max2_int min2_int max_two min_two max_three min_three max_four min_four   -- for this text's walks alone
set_option linter.unusedVariables false
set_option linter.unusedSimpArgs false

/-! ### paymasterlaw05_BracketsWhole: function 4 -/
mutual
def paymasterlaw05_BracketsWhole.j0 : Nat → Int → Int → List Int → Int → Int → Int → Int → Int → Bool → Option (Bool)
  | 0, _, _, _, _, _, _, _, _, _ => none
  | k + 1, x7, x8, x9, x10, x11, x12, x13, x14, x57 => if x57 = true then (if x12 = x10 then (if x14 = x10 then ((paymasterlaw05_awake.f k).bind fun t311 => (some t311)) else (none)) else (none)) else (paymasterlaw05_BracketsWhole.l0 k x7 x8 x11 x13 0 x9 (x9.length : Int) 0)
def paymasterlaw05_BracketsWhole.l0 : Nat → Int → Int → Int → Int → Int → List Int → Int → Int → Option (Bool)
  | 0, _, _, _, _, _, _, _, _ => none
  | k + 1, x7, x8, x11, x13, x15, x69, x70, x71 => if x71 < x70 then (if 0 ≤ x71 then (if x71 < (x69.length : Int) then (paymasterlaw05_BracketsWhole.l0 k x7 x8 x11 x13 (wrap64 (x15 + (rd x69 x71))) x69 x70 (wrap64 (x71 + 1))) else (none)) else (none)) else (if x15 = x7 then (if x11 ≥ 0 then (if x13 ≥ x11 then (if (wrap64 (x13 - x11)) ≤ (wrap64 (x8 - x7)) then (if x11 ≤ x7 then ((paymasterlaw05_awake.f k).bind fun t313 => (some t313)) else (none)) else (none)) else (none)) else (none)) else (none))
end
def paymasterlaw05_BracketsWhole.f (k : Nat) (l0 : List (S34)) (a1 : Int) (a2 : Int) : Option (Bool) := if (l0.length : Int) > 12 then ((paymasterlaw05_awake.f k).bind fun t302 => (some t302)) else ((brackets_Parts.f k l0 (wrap64 (a1 / 4))).bind fun bt303 => ((brackets_Tax.f k l0 (wrap64 (a1 / 4))).bind fun bt307 => ((brackets_Tax.f k l0 (wrap64 ((wrap64 (a1 / 4)) + (wrap64 (a2 / 4))))).bind fun bt309 => (if bt303.2 = 0 then (if bt307.2 = 0 then (paymasterlaw05_BracketsWhole.j0 k (wrap64 (a1 / 4)) (wrap64 ((wrap64 (a1 / 4)) + (wrap64 (a2 / 4)))) bt303.1 bt303.2 bt307.1 bt307.2 bt309.1 bt309.2 (bt309.2 != 0)) else (paymasterlaw05_BracketsWhole.j0 k (wrap64 (a1 / 4)) (wrap64 ((wrap64 (a1 / 4)) + (wrap64 (a2 / 4)))) bt303.1 bt303.2 bt307.1 bt307.2 bt309.1 bt309.2 true)) else (paymasterlaw05_BracketsWhole.j0 k (wrap64 (a1 / 4)) (wrap64 ((wrap64 (a1 / 4)) + (wrap64 (a2 / 4)))) bt303.1 bt303.2 bt307.1 bt307.2 bt309.1 bt309.2 true)))))
theorem paymasterlaw05_BracketsWhole.mono_l : ∀ k, (∀ y0 y1 y2 y3 y4 y5 y6 y7 y8, LeO (paymasterlaw05_BracketsWhole.j0 k y0 y1 y2 y3 y4 y5 y6 y7 y8) (paymasterlaw05_BracketsWhole.j0 (k + 1) y0 y1 y2 y3 y4 y5 y6 y7 y8)) ∧ (∀ y0 y1 y2 y3 y4 y5 y6 y7, LeO (paymasterlaw05_BracketsWhole.l0 k y0 y1 y2 y3 y4 y5 y6 y7) (paymasterlaw05_BracketsWhole.l0 (k + 1) y0 y1 y2 y3 y4 y5 y6 y7))
  | 0 => ⟨fun _ _ _ _ _ _ _ _ _ r h => by simp [paymasterlaw05_BracketsWhole.j0] at h, fun _ _ _ _ _ _ _ _ r h => by simp [paymasterlaw05_BracketsWhole.l0] at h⟩
  | k + 1 => by
    obtain ⟨ih0, ih1⟩ := paymasterlaw05_BracketsWhole.mono_l k
    refine ⟨?_, ?_⟩
    · intro y0 y1 y2 y3 y4 y5 y6 y7 y8
      unfold paymasterlaw05_BracketsWhole.j0
      repeat' first
      | (with_reducible exact ih0 _ _ _ _ _ _ _ _ _)
      | (with_reducible exact ih1 _ _ _ _ _ _ _ _)
      | (with_reducible exact brackets_Parts.mono _ _ _)
      | (with_reducible exact brackets_Tax.mono _ _ _)
      | (with_reducible exact paymasterlaw05_awake.mono _)
      | (with_reducible exact LeO.refl _)
      | (with_reducible exact LeO.none _)
      | (with_reducible refine LeO.ite ?_ ?_)
      | (with_reducible refine LeO.bind ?_ (fun _ => ?_))
      | exact ih0 _ _ _ _ _ _ _ _ _
      | exact ih1 _ _ _ _ _ _ _ _
      | exact brackets_Parts.mono _ _ _
      | exact brackets_Tax.mono _ _ _
      | exact paymasterlaw05_awake.mono _
      | exact LeO.none _
      | refine LeO.ite ?_ ?_
      | refine LeO.bind ?_ (fun _ => ?_)
    · intro y0 y1 y2 y3 y4 y5 y6 y7
      unfold paymasterlaw05_BracketsWhole.l0
      repeat' first
      | (with_reducible exact ih0 _ _ _ _ _ _ _ _ _)
      | (with_reducible exact ih1 _ _ _ _ _ _ _ _)
      | (with_reducible exact brackets_Parts.mono _ _ _)
      | (with_reducible exact brackets_Tax.mono _ _ _)
      | (with_reducible exact paymasterlaw05_awake.mono _)
      | (with_reducible exact LeO.refl _)
      | (with_reducible exact LeO.none _)
      | (with_reducible refine LeO.ite ?_ ?_)
      | (with_reducible refine LeO.bind ?_ (fun _ => ?_))
      | exact ih0 _ _ _ _ _ _ _ _ _
      | exact ih1 _ _ _ _ _ _ _ _
      | exact brackets_Parts.mono _ _ _
      | exact brackets_Tax.mono _ _ _
      | exact paymasterlaw05_awake.mono _
      | exact LeO.none _
      | refine LeO.ite ?_ ?_
      | refine LeO.bind ?_ (fun _ => ?_)
theorem paymasterlaw05_BracketsWhole.mono : ∀ a0 a1 a2 k, LeO (paymasterlaw05_BracketsWhole.f k a0 a1 a2) (paymasterlaw05_BracketsWhole.f (k + 1) a0 a1 a2) := by
  intro a0 a1 a2 k
  obtain ⟨ih0, ih1⟩ := paymasterlaw05_BracketsWhole.mono_l k
  unfold paymasterlaw05_BracketsWhole.f
  repeat' first
      | (with_reducible exact ih0 _ _ _ _ _ _ _ _ _)
      | (with_reducible exact ih1 _ _ _ _ _ _ _ _)
      | (with_reducible exact brackets_Parts.mono _ _ _)
      | (with_reducible exact brackets_Tax.mono _ _ _)
      | (with_reducible exact paymasterlaw05_awake.mono _)
      | (with_reducible exact LeO.refl _)
      | (with_reducible exact LeO.none _)
      | (with_reducible refine LeO.ite ?_ ?_)
      | (with_reducible refine LeO.bind ?_ (fun _ => ?_))
      | exact ih0 _ _ _ _ _ _ _ _ _
      | exact ih1 _ _ _ _ _ _ _ _
      | exact brackets_Parts.mono _ _ _
      | exact brackets_Tax.mono _ _ _
      | exact paymasterlaw05_awake.mono _
      | exact LeO.none _
      | refine LeO.ite ?_ ?_
      | refine LeO.bind ?_ (fun _ => ?_)
set_option maxHeartbeats 8000000 in
set_option maxRecDepth 100000 in
theorem paymasterlaw05_BracketsWhole.calls (k : Nat) (A0 : Option Addr) (c0 : Nat) (l0 : List (S34)) (a1 : Int) (a2 : Int) (r : Bool) (w : World) (hr0 : Kd.C k34 w A0 l0.length l0) (hc0 : l0.length ≤ c0) (h : paymasterlaw05_BracketsWhole.f k l0 a1 a2 = some r) :
    Calls Try.prog 4 #[.slice A0 l0.length c0, .int .u64 a1, .int .u64 a2] w fun e w' => e = .returned (.bool r) ∧ Below w.heap.size w w' := by
  have HR0 := Aside0.mk hr0
  have HC0 := Aside0.mk hc0
  clear hr0 hc0
  have HB := Aside0.mk (Below.refl w.heap.size w)
  have H : (if (l0.length : Int) > 12 then ((paymasterlaw05_awake.f k).bind fun t302 => (some t302)) else ((brackets_Parts.f k l0 (wrap64 (a1 / 4))).bind fun bt303 => ((brackets_Tax.f k l0 (wrap64 (a1 / 4))).bind fun bt307 => ((brackets_Tax.f k l0 (wrap64 ((wrap64 (a1 / 4)) + (wrap64 (a2 / 4))))).bind fun bt309 => (if bt303.2 = 0 then (if bt307.2 = 0 then (paymasterlaw05_BracketsWhole.j0 k (wrap64 (a1 / 4)) (wrap64 ((wrap64 (a1 / 4)) + (wrap64 (a2 / 4)))) bt303.1 bt303.2 bt307.1 bt307.2 bt309.1 bt309.2 (bt309.2 != 0)) else (paymasterlaw05_BracketsWhole.j0 k (wrap64 (a1 / 4)) (wrap64 ((wrap64 (a1 / 4)) + (wrap64 (a2 / 4)))) bt303.1 bt303.2 bt307.1 bt307.2 bt309.1 bt309.2 true)) else (paymasterlaw05_BracketsWhole.j0 k (wrap64 (a1 / 4)) (wrap64 ((wrap64 (a1 / 4)) + (wrap64 (a2 / 4)))) bt303.1 bt303.2 bt307.1 bt307.2 bt309.1 bt309.2 true)))))) = some r := h
  clear h
  by_cases c4 : (l0.length : Int) > 12
  · rw [if_pos c4] at H
    have c4b0 : decide (12 < (l0.length : Int)) = true := decide_eq_true c4
    have c4b1 : decide (12 < l0.length) = true := decide_eq_true (by omega)
    clear c4
    replace H := Option.bind_eq_some_iff.mp H
    obtain ⟨t302, A50, H⟩ := H
    replace H : (some t302) = some r := H
    have A5 := Aside0.mk A50
    clear A50
    obtain rfl := Option.some.inj H
    go_enter Try.func4, Try.ntmps4
    go_wp2_with (first | ((with_reducible refine gate_callee (f := 9) rfl ?_); refine goesL_ (some 29) rfl rfl Try.func9 (by kernel_rfl) rfl #[] rfl (by (try simp only [List.map_toArray, List.map_cons, List.map_nil]); first | done | rfl | (simp only [List.length_drop, List.length_take]; rfl)) ?_; (with_reducible refine (paymasterlaw05_awake.calls k  t302 _ A5.out).mono ?_); rintro e w6 ⟨rfl, hb⟩; refine ⟨_, rfl, ?_⟩; have n0_ := Aside0.mk (below_step (by repeat (first | (with_reducible first | exact HB.out | apply below_alloc | apply pw_below_drewN | apply below_drew1) | exact HB.out)) hb); clear HB; have HB := n0_; clear n0_; (try clear hb); (try clear hb2); (try clear hk); (try clear hi)))
    go_ret
    exact ⟨by first | rfl | (simp [errW_none, errW_some] <;> rfl) | (simp [*, errW_none, errW_some] <;> rfl), by repeat (first | (with_reducible first | exact HB.out | apply below_alloc | apply pw_below_drewN | apply below_drew1) | exact HB.out)⟩
  · rw [if_neg c4] at H
    have c4b0 : decide (12 < (l0.length : Int)) = false := decide_eq_false c4
    have c4b1 : decide (12 < l0.length) = false := decide_eq_false (by omega)
    clear c4
    replace H := Option.bind_eq_some_iff.mp H
    obtain ⟨⟨t303, t304⟩, A70, H⟩ := H
    replace H : ((brackets_Tax.f k l0 (wrap64 (a1 / 4))).bind fun bt307 => ((brackets_Tax.f k l0 (wrap64 ((wrap64 (a1 / 4)) + (wrap64 (a2 / 4))))).bind fun bt309 => (if t304 = 0 then (if bt307.2 = 0 then (paymasterlaw05_BracketsWhole.j0 k (wrap64 (a1 / 4)) (wrap64 ((wrap64 (a1 / 4)) + (wrap64 (a2 / 4)))) t303 t304 bt307.1 bt307.2 bt309.1 bt309.2 (bt309.2 != 0)) else (paymasterlaw05_BracketsWhole.j0 k (wrap64 (a1 / 4)) (wrap64 ((wrap64 (a1 / 4)) + (wrap64 (a2 / 4)))) t303 t304 bt307.1 bt307.2 bt309.1 bt309.2 true)) else (paymasterlaw05_BracketsWhole.j0 k (wrap64 (a1 / 4)) (wrap64 ((wrap64 (a1 / 4)) + (wrap64 (a2 / 4)))) t303 t304 bt307.1 bt307.2 bt309.1 bt309.2 true)))) = some r := H
    have A7 := Aside0.mk A70
    clear A70
    replace H := Option.bind_eq_some_iff.mp H
    obtain ⟨⟨t307, t308⟩, A80, H⟩ := H
    replace H : ((brackets_Tax.f k l0 (wrap64 ((wrap64 (a1 / 4)) + (wrap64 (a2 / 4))))).bind fun bt309 => (if t304 = 0 then (if t308 = 0 then (paymasterlaw05_BracketsWhole.j0 k (wrap64 (a1 / 4)) (wrap64 ((wrap64 (a1 / 4)) + (wrap64 (a2 / 4)))) t303 t304 t307 t308 bt309.1 bt309.2 (bt309.2 != 0)) else (paymasterlaw05_BracketsWhole.j0 k (wrap64 (a1 / 4)) (wrap64 ((wrap64 (a1 / 4)) + (wrap64 (a2 / 4)))) t303 t304 t307 t308 bt309.1 bt309.2 true)) else (paymasterlaw05_BracketsWhole.j0 k (wrap64 (a1 / 4)) (wrap64 ((wrap64 (a1 / 4)) + (wrap64 (a2 / 4)))) t303 t304 t307 t308 bt309.1 bt309.2 true))) = some r := H
    have A8 := Aside0.mk A80
    clear A80
    replace H := Option.bind_eq_some_iff.mp H
    obtain ⟨⟨t309, t310⟩, A90, H⟩ := H
    replace H : (if t304 = 0 then (if t308 = 0 then (paymasterlaw05_BracketsWhole.j0 k (wrap64 (a1 / 4)) (wrap64 ((wrap64 (a1 / 4)) + (wrap64 (a2 / 4)))) t303 t304 t307 t308 t309 t310 (t310 != 0)) else (paymasterlaw05_BracketsWhole.j0 k (wrap64 (a1 / 4)) (wrap64 ((wrap64 (a1 / 4)) + (wrap64 (a2 / 4)))) t303 t304 t307 t308 t309 t310 true)) else (paymasterlaw05_BracketsWhole.j0 k (wrap64 (a1 / 4)) (wrap64 ((wrap64 (a1 / 4)) + (wrap64 (a2 / 4)))) t303 t304 t307 t308 t309 t310 true)) = some r := H
    have A9 := Aside0.mk A90
    clear A90
    have HC10 := Aside0.mk H
    clear H
    go_enter Try.func4, Try.ntmps4
    go_upto_region 8 with (first | ((with_reducible refine gate_callee (f := 10) rfl ?_); refine goesL_ (some 33) rfl rfl Try.func10 (by kernel_rfl) rfl #[.slice A0 l0.length c0, .int .i64 (wrap64 (a1 / 4))] rfl (by (try simp only [List.map_toArray, List.map_cons, List.map_nil]); first | done | rfl | (simp only [List.length_drop, List.length_take]; rfl)) ?_; (with_reducible refine (brackets_Parts.calls k _ _ l0 (wrap64 (a1 / 4)) t303 t304 _ ?side1 ?side2 A7.out).mono ?_); (case side1 => repeat (first | exact HR0.out | (with_reducible refine Kd.C_alloc ?_ _) | (with_reducible refine Kd.C_drewN ?_ _) | (with_reducible refine Kd.C_drew ?_))); (case side2 => exact HC0.out); rintro e w11 ⟨v305, rfl, ho0, hb⟩; refine ⟨_, rfl, ?_⟩; have n0_ := Aside0.mk (Kd.R_lower ho0 (below_size (by repeat (first | (with_reducible first | exact HB.out | apply below_alloc | apply pw_below_drewN | apply below_drew1) | exact HB.out)))); have n1_ := Aside0.mk (below_step (by repeat (first | (with_reducible first | exact HB.out | apply below_alloc | apply pw_below_drewN | apply below_drew1) | exact HB.out)) hb); clear HB; have HO306 := n0_; have HB := n1_; clear n0_ n1_; (try clear hb); (try clear hb2); (try clear hk); (try clear hi); (try clear ho0)) | ((with_reducible refine gate_callee (f := 11) rfl ?_); refine goesL_ (some 39) rfl rfl Try.func11 (by kernel_rfl) rfl #[.slice A0 l0.length c0, .int .i64 (wrap64 (a1 / 4))] rfl (by (try simp only [List.map_toArray, List.map_cons, List.map_nil]); first | done | rfl | (simp only [List.length_drop, List.length_take]; rfl)) ?_; (with_reducible refine (brackets_Tax.calls k _ _ l0 (wrap64 (a1 / 4)) t307 t308 _ ?side1 ?side2 A8.out).mono ?_); (case side1 => repeat (first | exact (Kd.C_below HR0.out HB.out) | (with_reducible refine Kd.C_alloc ?_ _) | (with_reducible refine Kd.C_drewN ?_ _) | (with_reducible refine Kd.C_drew ?_))); (case side2 => exact HC0.out); rintro e w12 ⟨rfl, hb⟩; refine ⟨_, rfl, ?_⟩; have n0_ := Aside0.mk (Kd.R_below (by (with_reducible repeat (first | apply Kd.R_alloc | apply Kd.R_drewN | apply Kd.R_drew)); exact HO306.out) hb); have n1_ := Aside0.mk (below_step (by repeat (first | (with_reducible first | exact HB.out | apply below_alloc | apply pw_below_drewN | apply below_drew1) | exact HB.out)) hb); clear HO306; clear HB; have HO306 := n0_; have HB := n1_; clear n0_ n1_; (try clear hb); (try clear hb2); (try clear hk); (try clear hi)) | ((with_reducible refine gate_callee (f := 11) rfl ?_); refine goesL_ (some 45) rfl rfl Try.func11 (by kernel_rfl) rfl #[.slice A0 l0.length c0, .int .i64 (wrap64 ((wrap64 (a1 / 4)) + (wrap64 (a2 / 4))))] rfl (by (try simp only [List.map_toArray, List.map_cons, List.map_nil]); first | done | rfl | (simp only [List.length_drop, List.length_take]; rfl)) ?_; (with_reducible refine (brackets_Tax.calls k _ _ l0 (wrap64 ((wrap64 (a1 / 4)) + (wrap64 (a2 / 4)))) t309 t310 _ ?side1 ?side2 A9.out).mono ?_); (case side1 => repeat (first | exact (Kd.C_below HR0.out HB.out) | (with_reducible refine Kd.C_alloc ?_ _) | (with_reducible refine Kd.C_drewN ?_ _) | (with_reducible refine Kd.C_drew ?_))); (case side2 => exact HC0.out); rintro e w13 ⟨rfl, hb⟩; refine ⟨_, rfl, ?_⟩; have n0_ := Aside0.mk (Kd.R_below (by (with_reducible repeat (first | apply Kd.R_alloc | apply Kd.R_drewN | apply Kd.R_drew)); exact HO306.out) hb); have n1_ := Aside0.mk (below_step (by repeat (first | (with_reducible first | exact HB.out | apply below_alloc | apply pw_below_drewN | apply below_drew1) | exact HB.out)) hb); clear HO306; clear HB; have HO306 := n0_; have HB := n1_; clear n0_ n1_; (try clear hb); (try clear hb2); (try clear hk); (try clear hi)))
    (try simp only [Act.put, List.setIfInBounds_toArray, List.set_cons_zero, List.set_cons_succ])
    go_cut [57] (fun v57 wc => ∃ (kq : Nat) (x57_9 : Bool), v57 = .bool x57_9 ∧ Aside0 (paymasterlaw05_BracketsWhole.j0 kq (wrap64 (a1 / 4)) (wrap64 ((wrap64 (a1 / 4)) + (wrap64 (a2 / 4)))) t303 t304 t307 t308 t309 t310 x57_9 = some r) ∧ Aside0 (kq ≤ k) ∧ Aside0 (Kd.R (Kd.int .i64) 3 wc w.heap.size (fun _ => True) v305 t303) ∧ Aside0 (Below w.heap.size w wc))
    case first =>
      have H := HC10.out
      clear HC10
      by_cases c14 : t304 = 0
      · rw [if_pos c14] at H
        have c14b0 : (t304 == 0) = true := beq_iff_eq.mpr c14
        have c14b1 : (t304 != 0) = false := bne_eq_false_iff_eq.mpr c14
        clear c14
        (first | rw [c14b0] | (simp only [i64_w, i32_w]; rw [c14b0]) | skip)
        by_cases c15 : t308 = 0
        · rw [if_pos c15] at H
          have c15b0 : (t308 == 0) = true := beq_iff_eq.mpr c15
          have c15b1 : (t308 != 0) = false := bne_eq_false_iff_eq.mpr c15
          clear c15
          have H' := Aside0.mk H
          clear H
          go_wp2
          go_meet
          case rel => exact ⟨_, ((t310 != 0)), (by first | rfl | (simp; done) | (simp [*]; done)), H', ⟨by first | omega | exact Nat.le_refl _⟩, ⟨by (with_reducible repeat (first | apply Kd.R_alloc | apply Kd.R_drewN | apply Kd.R_drew)); exact HO306.out⟩, ⟨by repeat (first | (with_reducible first | exact HB.out | apply below_alloc | apply pw_below_drewN | apply below_drew1) | exact HB.out)⟩⟩
        · rw [if_neg c15] at H
          have c15b0 : (t308 == 0) = false := beq_eq_false_iff_ne.mpr c15
          have c15b1 : (t308 != 0) = true := bne_iff_ne.mpr c15
          have H' := Aside0.mk H
          clear H
          go_wp2
          go_meet
          case rel => exact ⟨_, (true), (by first | rfl | (simp; done) | (simp [*]; done)), H', ⟨by first | omega | exact Nat.le_refl _⟩, ⟨by (with_reducible repeat (first | apply Kd.R_alloc | apply Kd.R_drewN | apply Kd.R_drew)); exact HO306.out⟩, ⟨by repeat (first | (with_reducible first | exact HB.out | apply below_alloc | apply pw_below_drewN | apply below_drew1) | exact HB.out)⟩⟩
      · rw [if_neg c14] at H
        have c14b0 : (t304 == 0) = false := beq_eq_false_iff_ne.mpr c14
        have c14b1 : (t304 != 0) = true := bne_iff_ne.mpr c14
        (first | rw [c14b0] | (simp only [i64_w, i32_w]; rw [c14b0]) | skip)
        have H' := Aside0.mk H
        clear H
        go_wp2
        go_meet
        case rel => exact ⟨_, (true), (by first | rfl | (simp; done) | (simp [*]; done)), H', ⟨by first | omega | exact Nat.le_refl _⟩, ⟨by (with_reducible repeat (first | apply Kd.R_alloc | apply Kd.R_drewN | apply Kd.R_drew)); exact HO306.out⟩, ⟨by repeat (first | (with_reducible first | exact HB.out | apply below_alloc | apply pw_below_drewN | apply below_drew1) | exact HB.out)⟩⟩
    case rest =>
      clear HC10
      try clear c1
      try clear p2
      try clear c4
      try clear c4b0
      try clear c4b1
      try clear p6
      try clear c9
      try clear c10
      try clear c11
      try clear c14
      try clear c14b0
      try clear c14b1
      try clear c15
      try clear c15b0
      try clear c15b1
      obtain ⟨kq, x57_9, rfl, HA, HJ9, HO_9, HB⟩ := hcut
      cases kq with
      | zero => exact absurd HA.out (by simp [paymasterlaw05_BracketsWhole.j0])
      | succ kj9 =>
        have H := HA.out
        clear HA
        simp only [paymasterlaw05_BracketsWhole.j0] at H
        by_cases c16 : x57_9 = true
        · subst c16
          have H1 : (if t308 = t304 then (if t310 = t304 then ((paymasterlaw05_awake.f kj9).bind fun t311 => (some t311)) else (none)) else (none)) = some r := by rw [if_pos rfl] at H; exact H
          clear H
          have H := H1
          clear H1
          by_cases c17 : t308 = t304
          · rw [if_pos c17] at H
            have c17b0 : (t308 == t304) = true := beq_iff_eq.mpr c17
            have c17b1 : (t308 != t304) = false := bne_eq_false_iff_eq.mpr c17
            clear c17
            by_cases c18 : t310 = t304
            · rw [if_pos c18] at H
              have c18b0 : (t310 == t304) = true := beq_iff_eq.mpr c18
              have c18b1 : (t310 != t304) = false := bne_eq_false_iff_eq.mpr c18
              clear c18
              replace H := Option.bind_eq_some_iff.mp H
              obtain ⟨t311, A190, H⟩ := H
              replace H : (some t311) = some r := H
              have A19 := Aside0.mk A190
              clear A190
              obtain rfl := Option.some.inj H
              go_wp2_with (first | (go_at_call 9; (with_reducible refine (paymasterlaw05_awake.calls kj9  t311 _ A19.out).mono ?_); rintro e w20 ⟨rfl, hb⟩; have n0_ := Aside0.mk (Kd.R_below (by (with_reducible repeat (first | apply Kd.R_alloc | apply Kd.R_drewN | apply Kd.R_drew)); exact HO_9.out) hb); have n1_ := Aside0.mk (below_step (by repeat (first | (with_reducible first | exact HB.out | apply below_alloc | apply pw_below_drewN | apply below_drew1) | exact HB.out)) hb); clear HO_9; clear HB; have HO_9 := n0_; have HB := n1_; clear n0_ n1_; (try clear hb); (try clear hb2); (try clear hk); (try clear hi)))
              go_ret
              exact ⟨by first | rfl | (simp [errW_none, errW_some] <;> rfl) | (simp [*, errW_none, errW_some] <;> rfl), by repeat (first | (with_reducible first | exact HB.out | apply below_alloc | apply pw_below_drewN | apply below_drew1) | exact HB.out)⟩
            · rw [if_neg c18] at H
              exact absurd H (by simp)
          · rw [if_neg c17] at H
            exact absurd H (by simp)
        · replace c16 := Bool.eq_false_iff.mpr c16
          subst c16
          have H1 : (paymasterlaw05_BracketsWhole.l0 kj9 (wrap64 (a1 / 4)) (wrap64 ((wrap64 (a1 / 4)) + (wrap64 (a2 / 4)))) t307 t309 0 t303 (t303.length : Int) 0) = some r := by rw [if_neg (show ¬ (false = true) by decide)] at H; exact H
          clear H
          have H := H1
          clear H1
          have H' := Aside0.mk H
          clear H
          obtain ⟨Ao21, co21, eo21⟩ := Kd.R_slice HO_9.out
          subst eo21
          go_wp2
          go_loopg [15, 71] kj9 (fun kq v15 v71 w' => ∃ (x15_2 : Int) (x71_2 : Int), v15 = .int .i64 x15_2 ∧ v71 = .int .i64 x71_2 ∧ Aside0 (paymasterlaw05_BracketsWhole.l0 kq (wrap64 (a1 / 4)) (wrap64 ((wrap64 (a1 / 4)) + (wrap64 (a2 / 4)))) t307 t309 x15_2 t303 (t303.length : Int) x71_2 = some r) ∧ Aside0 (kq ≤ kj9) ∧ Aside0 (Kd.R (Kd.int .i64) 3 w' w.heap.size (fun _ => True) (.slice Ao21 t303.length co21) t303) ∧ Aside0 (Below w.heap.size w w'))
          case atStart => exact ⟨(0), (0), (by first | rfl | (simp; done) | (simp [*]; done)), (by first | rfl | (simp; done) | (simp [*]; done)), H', ⟨Nat.le_refl _⟩, ⟨by (with_reducible repeat (first | apply Kd.R_alloc | apply Kd.R_drewN | apply Kd.R_drew)); exact HO_9.out⟩, ⟨by repeat (first | (with_reducible first | exact HB.out | apply below_alloc | apply pw_below_drewN | apply below_drew1) | exact HB.out)⟩⟩
          case round =>
            clear H'
            try clear c1
            try clear p2
            try clear c4
            try clear c4b0
            try clear c4b1
            try clear p6
            try clear c9
            try clear c10
            try clear c11
            try clear c14
            try clear c14b0
            try clear c14b1
            try clear c15
            try clear c15b0
            try clear c15b1
            try clear c16
            try clear c17
            try clear c17b0
            try clear c17b1
            try clear c18
            try clear c18b0
            try clear c18b1
            try clear p2
            try clear p6
            obtain ⟨x15_2, x71_2, rfl, rfl, HA, HK2, HO_69, HB⟩ := hrel
            cases gk with
            | zero => exact absurd HA.out (by simp [paymasterlaw05_BracketsWhole.l0])
            | succ k2 =>
              have H := HA.out
              clear HA
              simp only [paymasterlaw05_BracketsWhole.l0] at H
              by_cases c22 : x71_2 < (t303.length : Int)
              · rw [if_pos c22] at H
                have c22b0 : decide (x71_2 < (t303.length : Int)) = true := decide_eq_true c22
                clear c22
                by_cases c23 : 0 ≤ x71_2
                · rw [if_pos c23] at H
                  have c23b0 : decide (0 ≤ x71_2) = true := decide_eq_true c23
                  clear c23
                  by_cases c24 : x71_2 < (t303.length : Int)
                  · rw [if_pos c24] at H
                    have c24b0 : decide (x71_2 < (t303.length : Int)) = true := decide_eq_true c24
                    clear c24
                    have H' := Aside0.mk H
                    clear H
                    have p312 : 0 ≤ (x71_2 : Int) := of_decide_eq_true (by first | (with_reducible assumption) | assumption)
                    have q312 : x71_2 < (t303.length : Int) := of_decide_eq_true (by first | (with_reducible assumption) | assumption)
                    obtain ⟨ad312, e312, hx312_0⟩ := Kd.at_int (Kd.R_reads' HO_69.out).2.2 x71_2 p312 q312
                    cases e312
                    replace p312 := eq_true p312
                    replace q312 := eq_true q312
                    go_wp2
                    go_roundg k2
                    case measure => have := HJ9.out; have := HK2.out; omega
                    case rel => exact ⟨(wrap64 (x15_2 + (rd t303 x71_2))), (wrap64 (x71_2 + 1)), (by first | rfl | (simp; done) | (simp [*]; done)), (by first | rfl | (simp; done) | (simp [*]; done)), H', ⟨by have := HJ9.out; have := HK2.out; omega⟩, ⟨by (with_reducible repeat (first | apply Kd.R_alloc | apply Kd.R_drewN | apply Kd.R_drew)); exact HO_69.out⟩, ⟨by repeat (first | (with_reducible first | exact HB.out | apply below_alloc | apply pw_below_drewN | apply below_drew1) | exact HB.out)⟩⟩
                  · rw [if_neg c24] at H
                    exact absurd H (by simp)
                · rw [if_neg c23] at H
                  exact absurd H (by simp)
              · rw [if_neg c22] at H
                have c22b0 : decide (x71_2 < (t303.length : Int)) = false := decide_eq_false c22
                clear c22
                by_cases c25 : x15_2 = (wrap64 (a1 / 4))
                · rw [if_pos c25] at H
                  have c25b0 : (x15_2 == (wrap64 (a1 / 4))) = true := beq_iff_eq.mpr c25
                  have c25b1 : (x15_2 != (wrap64 (a1 / 4))) = false := bne_eq_false_iff_eq.mpr c25
                  clear c25
                  by_cases c26 : t307 ≥ 0
                  · rw [if_pos c26] at H
                    have c26b0 : decide (0 ≤ t307) = true := decide_eq_true c26
                    clear c26
                    by_cases c27 : t309 ≥ t307
                    · rw [if_pos c27] at H
                      have c27b0 : decide (t307 ≤ t309) = true := decide_eq_true c27
                      clear c27
                      by_cases c28 : (wrap64 (t309 - t307)) ≤ (wrap64 ((wrap64 ((wrap64 (a1 / 4)) + (wrap64 (a2 / 4)))) - (wrap64 (a1 / 4))))
                      · rw [if_pos c28] at H
                        have c28b0 : decide ((wrap64 (t309 - t307)) ≤ (wrap64 ((wrap64 ((wrap64 (a1 / 4)) + (wrap64 (a2 / 4)))) - (wrap64 (a1 / 4))))) = true := decide_eq_true c28
                        clear c28
                        by_cases c29 : t307 ≤ (wrap64 (a1 / 4))
                        · rw [if_pos c29] at H
                          have c29b0 : decide (t307 ≤ (wrap64 (a1 / 4))) = true := decide_eq_true c29
                          clear c29
                          replace H := Option.bind_eq_some_iff.mp H
                          obtain ⟨t313, A300, H⟩ := H
                          replace H : (some t313) = some r := H
                          have A30 := Aside0.mk A300
                          clear A300
                          obtain rfl := Option.some.inj H
                          go_wp2_with (first | (go_at_call 9; (with_reducible refine (paymasterlaw05_awake.calls k2  t313 _ A30.out).mono ?_); rintro e w31 ⟨rfl, hb⟩; have n0_ := Aside0.mk (Kd.R_below (by (with_reducible repeat (first | apply Kd.R_alloc | apply Kd.R_drewN | apply Kd.R_drew)); exact HO_69.out) hb); have n1_ := Aside0.mk (below_step (by repeat (first | (with_reducible first | exact HB.out | apply below_alloc | apply pw_below_drewN | apply below_drew1) | exact HB.out)) hb); clear HO_69; clear HB; have HO_69 := n0_; have HB := n1_; clear n0_ n1_; (try clear hb); (try clear hb2); (try clear hk); (try clear hi)))
                          go_ret
                          exact ⟨by first | rfl | (simp [errW_none, errW_some] <;> rfl) | (simp [*, errW_none, errW_some] <;> rfl), by repeat (first | (with_reducible first | exact HB.out | apply below_alloc | apply pw_below_drewN | apply below_drew1) | exact HB.out)⟩
                        · rw [if_neg c29] at H
                          exact absurd H (by simp)
                      · rw [if_neg c28] at H
                        exact absurd H (by simp)
                    · rw [if_neg c27] at H
                      exact absurd H (by simp)
                  · rw [if_neg c26] at H
                    exact absurd H (by simp)
                · rw [if_neg c25] at H
                  exact absurd H (by simp)

/-! ### paymasterlaw05_BracketsFlat: function 5 -/
def paymasterlaw05_BracketsFlat.f (k : Nat) (a0 : Int) (a1 : Int) (a2 : Int) : Option (Bool) := (brackets_Tax.f k (([(⟨0, wrap64 (Int.tmod a0 10001)⟩ : S34)] : List (S34))) (wrap64 (a1 / 4))).bind fun bt317 => ((brackets_Tax.f k (([(⟨0, wrap64 (Int.tmod a0 10001)⟩ : S34), (⟨wrap64 (1 + (wrap64 (a2 / 4))), wrap64 (Int.tmod a0 10001)⟩ : S34)] : List (S34))) (wrap64 (a1 / 4))).bind fun bt322 => ((brackets_Tax.f k (([(⟨0, wrap64 (Int.tmod a0 10001)⟩ : S34)] : List (S34))) (wrap64 (-(wrap64 (a1 / 4))))).bind fun bt327 => ((brackets_Tax.f k (([(⟨0, 10000⟩ : S34)] : List (S34))) (wrap64 (a1 / 4))).bind fun bt332 => (if bt317.2 = 0 then (if bt322.2 = 0 then (if bt327.2 = 0 then (if bt332.2 = 0 then (if (wrap64 (bt317.1 - bt322.1)) ≥ 0 then (if (wrap64 (bt317.1 - bt322.1)) ≤ 1 then (if bt327.1 = 0 then (if bt332.1 = (wrap64 (a1 / 4)) then ((paymasterlaw05_awake.f k).bind fun t334 => (some t334)) else (none)) else (none)) else (none)) else (none)) else (none)) else (none)) else (none)) else (none)))))
theorem paymasterlaw05_BracketsFlat.mono : ∀ a0 a1 a2 k, LeO (paymasterlaw05_BracketsFlat.f k a0 a1 a2) (paymasterlaw05_BracketsFlat.f (k + 1) a0 a1 a2) := by
  intro a0 a1 a2 k
  unfold paymasterlaw05_BracketsFlat.f
  repeat' first
      | (with_reducible exact brackets_Tax.mono _ _ _)
      | (with_reducible exact paymasterlaw05_awake.mono _)
      | (with_reducible exact LeO.refl _)
      | (with_reducible exact LeO.none _)
      | (with_reducible refine LeO.ite ?_ ?_)
      | (with_reducible refine LeO.bind ?_ (fun _ => ?_))
      | exact brackets_Tax.mono _ _ _
      | exact paymasterlaw05_awake.mono _
      | exact LeO.none _
      | refine LeO.ite ?_ ?_
      | refine LeO.bind ?_ (fun _ => ?_)
set_option maxHeartbeats 8000000 in
set_option maxRecDepth 100000 in
theorem paymasterlaw05_BracketsFlat.calls (k : Nat) (a0 : Int) (a1 : Int) (a2 : Int) (r : Bool) (w : World) (h : paymasterlaw05_BracketsFlat.f k a0 a1 a2 = some r) :
    Calls Try.prog 5 #[.int .u16 a0, .int .u64 a1, .int .u64 a2] w fun e w' => e = .returned (.bool r) ∧ Below w.heap.size w w' := by
  have hu34 := Try.underlying34
  have HB := Aside0.mk (Below.refl w.heap.size w)
  have H : ((brackets_Tax.f k (([(⟨0, wrap64 (Int.tmod a0 10001)⟩ : S34)] : List (S34))) (wrap64 (a1 / 4))).bind fun bt317 => ((brackets_Tax.f k (([(⟨0, wrap64 (Int.tmod a0 10001)⟩ : S34), (⟨wrap64 (1 + (wrap64 (a2 / 4))), wrap64 (Int.tmod a0 10001)⟩ : S34)] : List (S34))) (wrap64 (a1 / 4))).bind fun bt322 => ((brackets_Tax.f k (([(⟨0, wrap64 (Int.tmod a0 10001)⟩ : S34)] : List (S34))) (wrap64 (-(wrap64 (a1 / 4))))).bind fun bt327 => ((brackets_Tax.f k (([(⟨0, 10000⟩ : S34)] : List (S34))) (wrap64 (a1 / 4))).bind fun bt332 => (if bt317.2 = 0 then (if bt322.2 = 0 then (if bt327.2 = 0 then (if bt332.2 = 0 then (if (wrap64 (bt317.1 - bt322.1)) ≥ 0 then (if (wrap64 (bt317.1 - bt322.1)) ≤ 1 then (if bt327.1 = 0 then (if bt332.1 = (wrap64 (a1 / 4)) then ((paymasterlaw05_awake.f k).bind fun t334 => (some t334)) else (none)) else (none)) else (none)) else (none)) else (none)) else (none)) else (none)) else (none)))))) = some r := h
  clear h
  obtain ⟨y314, hy314⟩ : ∃ y_ : List (S34), y_ = (([(⟨0, wrap64 (Int.tmod a0 10001)⟩ : S34)] : List (S34))) := ⟨_, rfl⟩
  replace H : ((brackets_Tax.f k y314 (wrap64 (a1 / 4))).bind fun bt317 => ((brackets_Tax.f k (([(⟨0, wrap64 (Int.tmod a0 10001)⟩ : S34), (⟨wrap64 (1 + (wrap64 (a2 / 4))), wrap64 (Int.tmod a0 10001)⟩ : S34)] : List (S34))) (wrap64 (a1 / 4))).bind fun bt322 => ((brackets_Tax.f k (([(⟨0, wrap64 (Int.tmod a0 10001)⟩ : S34)] : List (S34))) (wrap64 (-(wrap64 (a1 / 4))))).bind fun bt327 => ((brackets_Tax.f k (([(⟨0, 10000⟩ : S34)] : List (S34))) (wrap64 (a1 / 4))).bind fun bt332 => (if bt317.2 = 0 then (if bt322.2 = 0 then (if bt327.2 = 0 then (if bt332.2 = 0 then (if (wrap64 (bt317.1 - bt322.1)) ≥ 0 then (if (wrap64 (bt317.1 - bt322.1)) ≤ 1 then (if bt327.1 = 0 then (if bt332.1 = (wrap64 (a1 / 4)) then ((paymasterlaw05_awake.f k).bind fun t334 => (some t334)) else (none)) else (none)) else (none)) else (none)) else (none)) else (none)) else (none)) else (none)))))) = some r := by first | (rw [hy314]; with_reducible exact H) | (have H2_ := (Option.bind_some _ _).symm.trans H; rw [hy314]; with_reducible exact H2_) | (have H2_ := (Option.bind_some _ _).symm.trans H; with_reducible exact H2_) | with_reducible exact H | (rw [hy314]; exact H) | exact H
  have Ny314 := Aside0.mk hy314
  clear hy314
  replace H := Option.bind_eq_some_iff.mp H
  obtain ⟨⟨t317, t318⟩, A40, H⟩ := H
  replace H : ((brackets_Tax.f k (([(⟨0, wrap64 (Int.tmod a0 10001)⟩ : S34), (⟨wrap64 (1 + (wrap64 (a2 / 4))), wrap64 (Int.tmod a0 10001)⟩ : S34)] : List (S34))) (wrap64 (a1 / 4))).bind fun bt322 => ((brackets_Tax.f k (([(⟨0, wrap64 (Int.tmod a0 10001)⟩ : S34)] : List (S34))) (wrap64 (-(wrap64 (a1 / 4))))).bind fun bt327 => ((brackets_Tax.f k (([(⟨0, 10000⟩ : S34)] : List (S34))) (wrap64 (a1 / 4))).bind fun bt332 => (if t318 = 0 then (if bt322.2 = 0 then (if bt327.2 = 0 then (if bt332.2 = 0 then (if (wrap64 (t317 - bt322.1)) ≥ 0 then (if (wrap64 (t317 - bt322.1)) ≤ 1 then (if bt327.1 = 0 then (if bt332.1 = (wrap64 (a1 / 4)) then ((paymasterlaw05_awake.f k).bind fun t334 => (some t334)) else (none)) else (none)) else (none)) else (none)) else (none)) else (none)) else (none)) else (none))))) = some r := H
  have A4 := Aside0.mk A40
  clear A40
  obtain ⟨y319, hy319⟩ : ∃ y_ : List (S34), y_ = (([(⟨0, wrap64 (Int.tmod a0 10001)⟩ : S34), (⟨wrap64 (1 + (wrap64 (a2 / 4))), wrap64 (Int.tmod a0 10001)⟩ : S34)] : List (S34))) := ⟨_, rfl⟩
  replace H : ((brackets_Tax.f k y319 (wrap64 (a1 / 4))).bind fun bt322 => ((brackets_Tax.f k (([(⟨0, wrap64 (Int.tmod a0 10001)⟩ : S34)] : List (S34))) (wrap64 (-(wrap64 (a1 / 4))))).bind fun bt327 => ((brackets_Tax.f k (([(⟨0, 10000⟩ : S34)] : List (S34))) (wrap64 (a1 / 4))).bind fun bt332 => (if t318 = 0 then (if bt322.2 = 0 then (if bt327.2 = 0 then (if bt332.2 = 0 then (if (wrap64 (t317 - bt322.1)) ≥ 0 then (if (wrap64 (t317 - bt322.1)) ≤ 1 then (if bt327.1 = 0 then (if bt332.1 = (wrap64 (a1 / 4)) then ((paymasterlaw05_awake.f k).bind fun t334 => (some t334)) else (none)) else (none)) else (none)) else (none)) else (none)) else (none)) else (none)) else (none))))) = some r := by first | (rw [hy319]; with_reducible exact H) | (have H2_ := (Option.bind_some _ _).symm.trans H; rw [hy319]; with_reducible exact H2_) | (have H2_ := (Option.bind_some _ _).symm.trans H; with_reducible exact H2_) | with_reducible exact H | (rw [hy319]; exact H) | exact H
  have Ny319 := Aside0.mk hy319
  clear hy319
  replace H := Option.bind_eq_some_iff.mp H
  obtain ⟨⟨t322, t323⟩, A50, H⟩ := H
  replace H : ((brackets_Tax.f k (([(⟨0, wrap64 (Int.tmod a0 10001)⟩ : S34)] : List (S34))) (wrap64 (-(wrap64 (a1 / 4))))).bind fun bt327 => ((brackets_Tax.f k (([(⟨0, 10000⟩ : S34)] : List (S34))) (wrap64 (a1 / 4))).bind fun bt332 => (if t318 = 0 then (if t323 = 0 then (if bt327.2 = 0 then (if bt332.2 = 0 then (if (wrap64 (t317 - t322)) ≥ 0 then (if (wrap64 (t317 - t322)) ≤ 1 then (if bt327.1 = 0 then (if bt332.1 = (wrap64 (a1 / 4)) then ((paymasterlaw05_awake.f k).bind fun t334 => (some t334)) else (none)) else (none)) else (none)) else (none)) else (none)) else (none)) else (none)) else (none)))) = some r := H
  have A5 := Aside0.mk A50
  clear A50
  obtain ⟨y324, hy324⟩ : ∃ y_ : List (S34), y_ = (([(⟨0, wrap64 (Int.tmod a0 10001)⟩ : S34)] : List (S34))) := ⟨_, rfl⟩
  replace H : ((brackets_Tax.f k y324 (wrap64 (-(wrap64 (a1 / 4))))).bind fun bt327 => ((brackets_Tax.f k (([(⟨0, 10000⟩ : S34)] : List (S34))) (wrap64 (a1 / 4))).bind fun bt332 => (if t318 = 0 then (if t323 = 0 then (if bt327.2 = 0 then (if bt332.2 = 0 then (if (wrap64 (t317 - t322)) ≥ 0 then (if (wrap64 (t317 - t322)) ≤ 1 then (if bt327.1 = 0 then (if bt332.1 = (wrap64 (a1 / 4)) then ((paymasterlaw05_awake.f k).bind fun t334 => (some t334)) else (none)) else (none)) else (none)) else (none)) else (none)) else (none)) else (none)) else (none)))) = some r := by first | (rw [hy324]; with_reducible exact H) | (have H2_ := (Option.bind_some _ _).symm.trans H; rw [hy324]; with_reducible exact H2_) | (have H2_ := (Option.bind_some _ _).symm.trans H; with_reducible exact H2_) | with_reducible exact H | (rw [hy324]; exact H) | exact H
  have Ny324 := Aside0.mk hy324
  clear hy324
  replace H := Option.bind_eq_some_iff.mp H
  obtain ⟨⟨t327, t328⟩, A60, H⟩ := H
  replace H : ((brackets_Tax.f k (([(⟨0, 10000⟩ : S34)] : List (S34))) (wrap64 (a1 / 4))).bind fun bt332 => (if t318 = 0 then (if t323 = 0 then (if t328 = 0 then (if bt332.2 = 0 then (if (wrap64 (t317 - t322)) ≥ 0 then (if (wrap64 (t317 - t322)) ≤ 1 then (if t327 = 0 then (if bt332.1 = (wrap64 (a1 / 4)) then ((paymasterlaw05_awake.f k).bind fun t334 => (some t334)) else (none)) else (none)) else (none)) else (none)) else (none)) else (none)) else (none)) else (none))) = some r := H
  have A6 := Aside0.mk A60
  clear A60
  obtain ⟨y329, hy329⟩ : ∃ y_ : List (S34), y_ = (([(⟨0, 10000⟩ : S34)] : List (S34))) := ⟨_, rfl⟩
  replace H : ((brackets_Tax.f k y329 (wrap64 (a1 / 4))).bind fun bt332 => (if t318 = 0 then (if t323 = 0 then (if t328 = 0 then (if bt332.2 = 0 then (if (wrap64 (t317 - t322)) ≥ 0 then (if (wrap64 (t317 - t322)) ≤ 1 then (if t327 = 0 then (if bt332.1 = (wrap64 (a1 / 4)) then ((paymasterlaw05_awake.f k).bind fun t334 => (some t334)) else (none)) else (none)) else (none)) else (none)) else (none)) else (none)) else (none)) else (none))) = some r := by first | (rw [hy329]; with_reducible exact H) | (have H2_ := (Option.bind_some _ _).symm.trans H; rw [hy329]; with_reducible exact H2_) | (have H2_ := (Option.bind_some _ _).symm.trans H; with_reducible exact H2_) | with_reducible exact H | (rw [hy329]; exact H) | exact H
  have Ny329 := Aside0.mk hy329
  clear hy329
  replace H := Option.bind_eq_some_iff.mp H
  obtain ⟨⟨t332, t333⟩, A70, H⟩ := H
  replace H : (if t318 = 0 then (if t323 = 0 then (if t328 = 0 then (if t333 = 0 then (if (wrap64 (t317 - t322)) ≥ 0 then (if (wrap64 (t317 - t322)) ≤ 1 then (if t327 = 0 then (if t332 = (wrap64 (a1 / 4)) then ((paymasterlaw05_awake.f k).bind fun t334 => (some t334)) else (none)) else (none)) else (none)) else (none)) else (none)) else (none)) else (none)) else (none)) = some r := H
  have A7 := Aside0.mk A70
  clear A70
  by_cases c8 : t318 = 0
  · rw [if_pos c8] at H
    have c8b0 : (t318 == 0) = true := beq_iff_eq.mpr c8
    have c8b1 : (t318 != 0) = false := bne_eq_false_iff_eq.mpr c8
    clear c8
    by_cases c9 : t323 = 0
    · rw [if_pos c9] at H
      have c9b0 : (t323 == 0) = true := beq_iff_eq.mpr c9
      have c9b1 : (t323 != 0) = false := bne_eq_false_iff_eq.mpr c9
      clear c9
      by_cases c10 : t328 = 0
      · rw [if_pos c10] at H
        have c10b0 : (t328 == 0) = true := beq_iff_eq.mpr c10
        have c10b1 : (t328 != 0) = false := bne_eq_false_iff_eq.mpr c10
        clear c10
        by_cases c11 : t333 = 0
        · rw [if_pos c11] at H
          have c11b0 : (t333 == 0) = true := beq_iff_eq.mpr c11
          have c11b1 : (t333 != 0) = false := bne_eq_false_iff_eq.mpr c11
          clear c11
          by_cases c12 : (wrap64 (t317 - t322)) ≥ 0
          · rw [if_pos c12] at H
            have c12b0 : decide (0 ≤ (wrap64 (t317 - t322))) = true := decide_eq_true c12
            clear c12
            by_cases c13 : (wrap64 (t317 - t322)) ≤ 1
            · rw [if_pos c13] at H
              have c13b0 : decide ((wrap64 (t317 - t322)) ≤ 1) = true := decide_eq_true c13
              clear c13
              by_cases c14 : t327 = 0
              · rw [if_pos c14] at H
                have c14b0 : (t327 == 0) = true := beq_iff_eq.mpr c14
                have c14b1 : (t327 != 0) = false := bne_eq_false_iff_eq.mpr c14
                clear c14
                by_cases c15 : t332 = (wrap64 (a1 / 4))
                · rw [if_pos c15] at H
                  have c15b0 : (t332 == (wrap64 (a1 / 4))) = true := beq_iff_eq.mpr c15
                  have c15b1 : (t332 != (wrap64 (a1 / 4))) = false := bne_eq_false_iff_eq.mpr c15
                  clear c15
                  replace H := Option.bind_eq_some_iff.mp H
                  obtain ⟨t334, A160, H⟩ := H
                  replace H : (some t334) = some r := H
                  have A16 := Aside0.mk A160
                  clear A160
                  obtain rfl := Option.some.inj H
                  go_enter Try.func5, Try.ntmps5
                  go_wp2_with (first | ((with_reducible refine gate_dst (N := 31) rfl ?_); refine Kd.R_lit k34 _ 34 ?hg (N := 31) ?hd (xs := ([(⟨0, wrap64 (Int.tmod a0 10001)⟩ : S34)] : List (S34))) (inner := [.int .i64 0, .int .i64 (wrap64 (Int.tmod a0 10001))]) (ok := fun _ => True) (okp := fun _ => True) ?hr ?hp (fun _ hk => hk) trivial (Below.refl _ _) (Nat.le_refl _) (by simp) ?_; (case hd => rfl); (case hg => rfl); (case hr => first | (go_simp; done) | (go_simp; rfl)); (case hp => exact (Reps.c2 (show Kd.M k34 _ _ _ (⟨0, wrap64 (Int.tmod a0 10001)⟩ : S34) [.int .i64 0, .int .i64 (wrap64 (Int.tmod a0 10001))] from (k34_mkM _ _ _ (⟨0, wrap64 (Int.tmod a0 10001)⟩ : S34) )) (Reps.none _ _))); intro v315 w17 ho18 hb hg_ hnew_; clear hg_ hnew_; (first | rw [← Ny314.out] at ho18 | (simp only [Int.reduceToNat] at ho18; rw [← Ny314.out] at ho18)); have n0_ := Aside0.mk (Kd.R_lower ho18 (below_size (by repeat (first | (with_reducible first | exact HB.out | apply below_alloc | apply pw_below_drewN | apply below_drew1) | exact HB.out)))); have n1_ := Aside0.mk (below_step (by repeat (first | (with_reducible first | exact HB.out | apply below_alloc | apply pw_below_drewN | apply below_drew1) | exact HB.out)) hb); clear HB; have HO316 := n0_; have HB := n1_; clear n0_ n1_; clear hb ho18; obtain ⟨Ao19, co19, eo19⟩ := Kd.R_slice HO316.out; subst eo19) | ((with_reducible refine gate_callee (f := 11) rfl ?_); refine goesL_ (some 33) rfl rfl Try.func11 (by kernel_rfl) rfl #[.slice Ao19 y314.length co19, .int .i64 (wrap64 (a1 / 4))] rfl (by (try simp only [List.map_toArray, List.map_cons, List.map_nil]); first | done | rfl | (simp only [List.length_drop, List.length_take]; rfl)) ?_; (with_reducible refine (brackets_Tax.calls k _ _ y314 (wrap64 (a1 / 4)) t317 t318 _ ?side1 ?side2 A4.out).mono ?_); (case side1 => repeat (first | exact (Kd.R_reads' HO316.out).2.2 | (with_reducible refine Kd.C_alloc ?_ _) | (with_reducible refine Kd.C_drewN ?_ _) | (with_reducible refine Kd.C_drew ?_))); (case side2 => exact (Kd.R_reads' HO316.out).2.1); rintro e w20 ⟨rfl, hb⟩; refine ⟨_, rfl, ?_⟩; have n0_ := Aside0.mk (Kd.R_below (by (with_reducible repeat (first | apply Kd.R_alloc | apply Kd.R_drewN | apply Kd.R_drew)); exact HO316.out) hb); have n1_ := Aside0.mk (below_step (by repeat (first | (with_reducible first | exact HB.out | apply below_alloc | apply pw_below_drewN | apply below_drew1) | exact HB.out)) hb); clear HO316; clear HB; have HO316 := n0_; have HB := n1_; clear n0_ n1_; (try clear hb); (try clear hb2); (try clear hk); (try clear hi)) | ((with_reducible refine gate_dst (N := 42) rfl ?_); refine Kd.R_lit k34 _ 34 ?hg (N := 42) ?hd (xs := ([(⟨0, wrap64 (Int.tmod a0 10001)⟩ : S34), (⟨wrap64 (1 + (wrap64 (a2 / 4))), wrap64 (Int.tmod a0 10001)⟩ : S34)] : List (S34))) (inner := [.int .i64 0, .int .i64 (wrap64 (Int.tmod a0 10001)), .int .i64 (wrap64 (1 + (wrap64 (a2 / 4)))), .int .i64 (wrap64 (Int.tmod a0 10001))]) (ok := fun _ => True) (okp := fun _ => True) ?hr ?hp (fun _ hk => hk) trivial (Below.refl _ _) (Nat.le_refl _) (by simp) ?_; (case hd => rfl); (case hg => rfl); (case hr => first | (go_simp; done) | (go_simp; rfl)); (case hp => exact (Reps.c2 (show Kd.M k34 _ _ _ (⟨0, wrap64 (Int.tmod a0 10001)⟩ : S34) [.int .i64 0, .int .i64 (wrap64 (Int.tmod a0 10001))] from (k34_mkM _ _ _ (⟨0, wrap64 (Int.tmod a0 10001)⟩ : S34) )) (Reps.c2 (show Kd.M k34 _ _ _ (⟨wrap64 (1 + (wrap64 (a2 / 4))), wrap64 (Int.tmod a0 10001)⟩ : S34) [.int .i64 (wrap64 (1 + (wrap64 (a2 / 4)))), .int .i64 (wrap64 (Int.tmod a0 10001))] from (k34_mkM _ _ _ (⟨wrap64 (1 + (wrap64 (a2 / 4))), wrap64 (Int.tmod a0 10001)⟩ : S34) )) (Reps.none _ _)))); intro v320 w21 ho22 hb hg_ hnew_; clear hg_ hnew_; (first | rw [← Ny319.out] at ho22 | (simp only [Int.reduceToNat] at ho22; rw [← Ny319.out] at ho22)); have n0_ := Aside0.mk (Kd.R_elder' (by (with_reducible repeat (first | apply Kd.R_alloc | apply Kd.R_drewN | apply Kd.R_drew)); exact HO316.out) (Kd.R_base ho22) hb); have n1_ := Aside0.mk (Kd.R_lower (Kd.R_new' ho22 (Kd.R_lt (by (with_reducible repeat (first | apply Kd.R_alloc | apply Kd.R_drewN | apply Kd.R_drew)); exact HO316.out))) (below_size (by repeat (first | (with_reducible first | exact HB.out | apply below_alloc | apply pw_below_drewN | apply below_drew1) | exact HB.out)))); have n2_ := Aside0.mk (below_step (by repeat (first | (with_reducible first | exact HB.out | apply below_alloc | apply pw_below_drewN | apply below_drew1) | exact HB.out)) hb); clear HO316; clear HB; have HO316 := n0_; have HO321 := n1_; have HB := n2_; clear n0_ n1_ n2_; clear hb ho22; obtain ⟨Ao23, co23, eo23⟩ := Kd.R_slice HO321.out; subst eo23) | ((with_reducible refine gate_callee (f := 11) rfl ?_); refine goesL_ (some 44) rfl rfl Try.func11 (by kernel_rfl) rfl #[.slice Ao23 y319.length co23, .int .i64 (wrap64 (a1 / 4))] rfl (by (try simp only [List.map_toArray, List.map_cons, List.map_nil]); first | done | rfl | (simp only [List.length_drop, List.length_take]; rfl)) ?_; (with_reducible refine (brackets_Tax.calls k _ _ y319 (wrap64 (a1 / 4)) t322 t323 _ ?side1 ?side2 A5.out).mono ?_); (case side1 => repeat (first | exact (Kd.R_reads' HO321.out).2.2 | (with_reducible refine Kd.C_alloc ?_ _) | (with_reducible refine Kd.C_drewN ?_ _) | (with_reducible refine Kd.C_drew ?_))); (case side2 => exact (Kd.R_reads' HO321.out).2.1); rintro e w24 ⟨rfl, hb⟩; refine ⟨_, rfl, ?_⟩; have n0_ := Aside0.mk (Kd.R_below (by (with_reducible repeat (first | apply Kd.R_alloc | apply Kd.R_drewN | apply Kd.R_drew)); exact HO316.out) hb); have n1_ := Aside0.mk (Kd.R_below (by (with_reducible repeat (first | apply Kd.R_alloc | apply Kd.R_drewN | apply Kd.R_drew)); exact HO321.out) hb); have n2_ := Aside0.mk (below_step (by repeat (first | (with_reducible first | exact HB.out | apply below_alloc | apply pw_below_drewN | apply below_drew1) | exact HB.out)) hb); clear HO316; clear HO321; clear HB; have HO316 := n0_; have HO321 := n1_; have HB := n2_; clear n0_ n1_ n2_; (try clear hb); (try clear hb2); (try clear hk); (try clear hi)) | ((with_reducible refine gate_dst (N := 50) rfl ?_); refine Kd.R_lit k34 _ 34 ?hg (N := 50) ?hd (xs := ([(⟨0, wrap64 (Int.tmod a0 10001)⟩ : S34)] : List (S34))) (inner := [.int .i64 0, .int .i64 (wrap64 (Int.tmod a0 10001))]) (ok := fun _ => True) (okp := fun _ => True) ?hr ?hp (fun _ hk => hk) trivial (Below.refl _ _) (Nat.le_refl _) (by simp) ?_; (case hd => rfl); (case hg => rfl); (case hr => first | (go_simp; done) | (go_simp; rfl)); (case hp => exact (Reps.c2 (show Kd.M k34 _ _ _ (⟨0, wrap64 (Int.tmod a0 10001)⟩ : S34) [.int .i64 0, .int .i64 (wrap64 (Int.tmod a0 10001))] from (k34_mkM _ _ _ (⟨0, wrap64 (Int.tmod a0 10001)⟩ : S34) )) (Reps.none _ _))); intro v325 w25 ho26 hb hg_ hnew_; clear hg_ hnew_; (first | rw [← Ny324.out] at ho26 | (simp only [Int.reduceToNat] at ho26; rw [← Ny324.out] at ho26)); have n0_ := Aside0.mk (Kd.R_elder' (by (with_reducible repeat (first | apply Kd.R_alloc | apply Kd.R_drewN | apply Kd.R_drew)); exact HO316.out) (Kd.R_base ho26) hb); have n1_ := Aside0.mk (Kd.R_elder' (by (with_reducible repeat (first | apply Kd.R_alloc | apply Kd.R_drewN | apply Kd.R_drew)); exact HO321.out) (Kd.R_base ho26) hb); have n2_ := Aside0.mk (Kd.R_lower (Kd.R_new' (Kd.R_new' ho26 (Kd.R_lt (by (with_reducible repeat (first | apply Kd.R_alloc | apply Kd.R_drewN | apply Kd.R_drew)); exact HO316.out))) (Kd.R_lt (by (with_reducible repeat (first | apply Kd.R_alloc | apply Kd.R_drewN | apply Kd.R_drew)); exact HO321.out))) (below_size (by repeat (first | (with_reducible first | exact HB.out | apply below_alloc | apply pw_below_drewN | apply below_drew1) | exact HB.out)))); have n3_ := Aside0.mk (below_step (by repeat (first | (with_reducible first | exact HB.out | apply below_alloc | apply pw_below_drewN | apply below_drew1) | exact HB.out)) hb); clear HO316; clear HO321; clear HB; have HO316 := n0_; have HO321 := n1_; have HO326 := n2_; have HB := n3_; clear n0_ n1_ n2_ n3_; clear hb ho26; obtain ⟨Ao27, co27, eo27⟩ := Kd.R_slice HO326.out; subst eo27) | ((with_reducible refine gate_callee (f := 11) rfl ?_); refine goesL_ (some 53) rfl rfl Try.func11 (by kernel_rfl) rfl #[.slice Ao27 y324.length co27, .int .i64 (wrap64 (-(wrap64 (a1 / 4))))] rfl (by (try simp only [List.map_toArray, List.map_cons, List.map_nil]); first | done | rfl | (simp only [List.length_drop, List.length_take]; rfl)) ?_; (with_reducible refine (brackets_Tax.calls k _ _ y324 (wrap64 (-(wrap64 (a1 / 4)))) t327 t328 _ ?side1 ?side2 A6.out).mono ?_); (case side1 => repeat (first | exact (Kd.R_reads' HO326.out).2.2 | (with_reducible refine Kd.C_alloc ?_ _) | (with_reducible refine Kd.C_drewN ?_ _) | (with_reducible refine Kd.C_drew ?_))); (case side2 => exact (Kd.R_reads' HO326.out).2.1); rintro e w28 ⟨rfl, hb⟩; refine ⟨_, rfl, ?_⟩; have n0_ := Aside0.mk (Kd.R_below (by (with_reducible repeat (first | apply Kd.R_alloc | apply Kd.R_drewN | apply Kd.R_drew)); exact HO316.out) hb); have n1_ := Aside0.mk (Kd.R_below (by (with_reducible repeat (first | apply Kd.R_alloc | apply Kd.R_drewN | apply Kd.R_drew)); exact HO321.out) hb); have n2_ := Aside0.mk (Kd.R_below (by (with_reducible repeat (first | apply Kd.R_alloc | apply Kd.R_drewN | apply Kd.R_drew)); exact HO326.out) hb); have n3_ := Aside0.mk (below_step (by repeat (first | (with_reducible first | exact HB.out | apply below_alloc | apply pw_below_drewN | apply below_drew1) | exact HB.out)) hb); clear HO316; clear HO321; clear HO326; clear HB; have HO316 := n0_; have HO321 := n1_; have HO326 := n2_; have HB := n3_; clear n0_ n1_ n2_ n3_; (try clear hb); (try clear hb2); (try clear hk); (try clear hi)) | ((with_reducible refine gate_dst (N := 58) rfl ?_); refine Kd.R_lit k34 _ 34 ?hg (N := 58) ?hd (xs := ([(⟨0, 10000⟩ : S34)] : List (S34))) (inner := [.int .i64 0, .int .i64 10000]) (ok := fun _ => True) (okp := fun _ => True) ?hr ?hp (fun _ hk => hk) trivial (Below.refl _ _) (Nat.le_refl _) (by simp) ?_; (case hd => rfl); (case hg => rfl); (case hr => first | (go_simp; done) | (go_simp; rfl)); (case hp => exact (Reps.c2 (show Kd.M k34 _ _ _ (⟨0, 10000⟩ : S34) [.int .i64 0, .int .i64 10000] from (k34_mkM _ _ _ (⟨0, 10000⟩ : S34) )) (Reps.none _ _))); intro v330 w29 ho30 hb hg_ hnew_; clear hg_ hnew_; (first | rw [← Ny329.out] at ho30 | (simp only [Int.reduceToNat] at ho30; rw [← Ny329.out] at ho30)); have n0_ := Aside0.mk (Kd.R_elder' (by (with_reducible repeat (first | apply Kd.R_alloc | apply Kd.R_drewN | apply Kd.R_drew)); exact HO316.out) (Kd.R_base ho30) hb); have n1_ := Aside0.mk (Kd.R_elder' (by (with_reducible repeat (first | apply Kd.R_alloc | apply Kd.R_drewN | apply Kd.R_drew)); exact HO321.out) (Kd.R_base ho30) hb); have n2_ := Aside0.mk (Kd.R_elder' (by (with_reducible repeat (first | apply Kd.R_alloc | apply Kd.R_drewN | apply Kd.R_drew)); exact HO326.out) (Kd.R_base ho30) hb); have n3_ := Aside0.mk (Kd.R_lower (Kd.R_new' (Kd.R_new' (Kd.R_new' ho30 (Kd.R_lt (by (with_reducible repeat (first | apply Kd.R_alloc | apply Kd.R_drewN | apply Kd.R_drew)); exact HO316.out))) (Kd.R_lt (by (with_reducible repeat (first | apply Kd.R_alloc | apply Kd.R_drewN | apply Kd.R_drew)); exact HO321.out))) (Kd.R_lt (by (with_reducible repeat (first | apply Kd.R_alloc | apply Kd.R_drewN | apply Kd.R_drew)); exact HO326.out))) (below_size (by repeat (first | (with_reducible first | exact HB.out | apply below_alloc | apply pw_below_drewN | apply below_drew1) | exact HB.out)))); have n4_ := Aside0.mk (below_step (by repeat (first | (with_reducible first | exact HB.out | apply below_alloc | apply pw_below_drewN | apply below_drew1) | exact HB.out)) hb); clear HO316; clear HO321; clear HO326; clear HB; have HO316 := n0_; have HO321 := n1_; have HO326 := n2_; have HO331 := n3_; have HB := n4_; clear n0_ n1_ n2_ n3_ n4_; clear hb ho30; obtain ⟨Ao31, co31, eo31⟩ := Kd.R_slice HO331.out; subst eo31) | ((with_reducible refine gate_callee (f := 11) rfl ?_); refine goesL_ (some 60) rfl rfl Try.func11 (by kernel_rfl) rfl #[.slice Ao31 y329.length co31, .int .i64 (wrap64 (a1 / 4))] rfl (by (try simp only [List.map_toArray, List.map_cons, List.map_nil]); first | done | rfl | (simp only [List.length_drop, List.length_take]; rfl)) ?_; (with_reducible refine (brackets_Tax.calls k _ _ y329 (wrap64 (a1 / 4)) t332 t333 _ ?side1 ?side2 A7.out).mono ?_); (case side1 => repeat (first | exact (Kd.R_reads' HO331.out).2.2 | (with_reducible refine Kd.C_alloc ?_ _) | (with_reducible refine Kd.C_drewN ?_ _) | (with_reducible refine Kd.C_drew ?_))); (case side2 => exact (Kd.R_reads' HO331.out).2.1); rintro e w32 ⟨rfl, hb⟩; refine ⟨_, rfl, ?_⟩; have n0_ := Aside0.mk (Kd.R_below (by (with_reducible repeat (first | apply Kd.R_alloc | apply Kd.R_drewN | apply Kd.R_drew)); exact HO316.out) hb); have n1_ := Aside0.mk (Kd.R_below (by (with_reducible repeat (first | apply Kd.R_alloc | apply Kd.R_drewN | apply Kd.R_drew)); exact HO321.out) hb); have n2_ := Aside0.mk (Kd.R_below (by (with_reducible repeat (first | apply Kd.R_alloc | apply Kd.R_drewN | apply Kd.R_drew)); exact HO326.out) hb); have n3_ := Aside0.mk (Kd.R_below (by (with_reducible repeat (first | apply Kd.R_alloc | apply Kd.R_drewN | apply Kd.R_drew)); exact HO331.out) hb); have n4_ := Aside0.mk (below_step (by repeat (first | (with_reducible first | exact HB.out | apply below_alloc | apply pw_below_drewN | apply below_drew1) | exact HB.out)) hb); clear HO316; clear HO321; clear HO326; clear HO331; clear HB; have HO316 := n0_; have HO321 := n1_; have HO326 := n2_; have HO331 := n3_; have HB := n4_; clear n0_ n1_ n2_ n3_ n4_; (try clear hb); (try clear hb2); (try clear hk); (try clear hi)) | (go_at_call 9; (with_reducible refine (paymasterlaw05_awake.calls k  t334 _ A16.out).mono ?_); rintro e w33 ⟨rfl, hb⟩; have n0_ := Aside0.mk (Kd.R_below (by (with_reducible repeat (first | apply Kd.R_alloc | apply Kd.R_drewN | apply Kd.R_drew)); exact HO316.out) hb); have n1_ := Aside0.mk (Kd.R_below (by (with_reducible repeat (first | apply Kd.R_alloc | apply Kd.R_drewN | apply Kd.R_drew)); exact HO321.out) hb); have n2_ := Aside0.mk (Kd.R_below (by (with_reducible repeat (first | apply Kd.R_alloc | apply Kd.R_drewN | apply Kd.R_drew)); exact HO326.out) hb); have n3_ := Aside0.mk (Kd.R_below (by (with_reducible repeat (first | apply Kd.R_alloc | apply Kd.R_drewN | apply Kd.R_drew)); exact HO331.out) hb); have n4_ := Aside0.mk (below_step (by repeat (first | (with_reducible first | exact HB.out | apply below_alloc | apply pw_below_drewN | apply below_drew1) | exact HB.out)) hb); clear HO316; clear HO321; clear HO326; clear HO331; clear HB; have HO316 := n0_; have HO321 := n1_; have HO326 := n2_; have HO331 := n3_; have HB := n4_; clear n0_ n1_ n2_ n3_ n4_; (try clear hb); (try clear hb2); (try clear hk); (try clear hi)))
                  go_ret
                  exact ⟨by first | rfl | (simp [errW_none, errW_some] <;> rfl) | (simp [*, errW_none, errW_some] <;> rfl), by repeat (first | (with_reducible first | exact HB.out | apply below_alloc | apply pw_below_drewN | apply below_drew1) | exact HB.out)⟩
                · rw [if_neg c15] at H
                  exact absurd H (by simp)
              · rw [if_neg c14] at H
                exact absurd H (by simp)
            · rw [if_neg c13] at H
              exact absurd H (by simp)
          · rw [if_neg c12] at H
            exact absurd H (by simp)
        · rw [if_neg c11] at H
          exact absurd H (by simp)
      · rw [if_neg c10] at H
        exact absurd H (by simp)
    · rw [if_neg c9] at H
      exact absurd H (by simp)
  · rw [if_neg c8] at H
    exact absurd H (by simp)

/-- THE ONE PURE STATEMENT of paymasterlaw05_BracketsFlat: yours. -/
def paymasterlaw05_BracketsFlat.Pure : Prop := ∀ (a0 : Int) (a1 : Int) (a2 : Int), (Lit.int .u16 a0).wf = true → (Lit.int .u64 a1).wf = true → (Lit.int .u64 a2).wf = true → ∃ k, paymasterlaw05_BracketsFlat.f k a0 a1 a2 = some true
theorem paymasterlaw05_BracketsFlat.walk (P : paymasterlaw05_BracketsFlat.Pure) (a0 : Int) (a1 : Int) (a2 : Int) (w : World) (w0 : (Lit.int .u16 a0).wf = true) (w1 : (Lit.int .u64 a1).wf = true) (w2 : (Lit.int .u64 a2).wf = true) :
    Calls Try.prog 5 #[.int .u16 a0, .int .u64 a1, .int .u64 a2] w fun e w' => e = .returned (.bool true) ∧ Below w.heap.size w w' := by
  obtain ⟨k, h⟩ := P a0 a1 a2 w0 w1 w2
  refine (paymasterlaw05_BracketsFlat.calls k a0 a1 a2 true w h).mono ?_
  rintro e w' ⟨rfl, hd⟩
  exact ⟨rfl, hd⟩

end Go.Proofs.Ytnhcpnodleifmaa.PA
