/- Contracts of the functions of the given program: written by wip/pmprint.py, a program of this session, which runs the print of the kit over altered functions. -/
import Derived.Test.YtnhcpnodleifmaaPAx0
import Derived.Test.YtnhcpnodleifmaaPAx1
import Derived.Test.YtnhcpnodleifmaaPAx3
import Derived.Test.YtnhcpnodleifmaaPAx4
namespace Go.Proofs.Ytnhcpnodleifmaa.PA
open Go.RowKit Go.Proofs.YtnhcpnodleifmaaW.PrintWords Go.Proofs.YtnhcpnodleifmaaW.PrintLast Go.Proofs.YtnhcpnodleifmaaW.PrintMore
attribute [local go_sem] max2_int min2_int max_two min_two max_three min_three max_four min_four   -- for this text's walks alone
set_option linter.unusedVariables false
set_option linter.unusedSimpArgs false

/-! ### paymasterlaw05_BracketsSplit: function 8 -/
def paymasterlaw05_BracketsSplit.j0 : Nat → List (S34) → Int → Int → Bool → Option (Bool)
  | 0, _, _, _, _ => none
  | k + 1, x0, x1, x2, x26 => if x26 = true then ((paymasterlaw05_awake.f k).bind fun t388 => (some t388)) else (if 0 ≤ (wrap64 ((x0.length : Int) - 1)) then (if (wrap64 ((x0.length : Int) - 1)) < (x0.length : Int) then (if ((rd_T34 x0 (wrap64 ((x0.length : Int) - 1))).f0) > 1152921504606846976 then ((paymasterlaw05_awake.f k).bind fun t391 => (some t391)) else ((some (([] : List (S34)) : List (S34))).bind fun y392 => (if y392.length + x0.length < 8796093022208 then ((some (y392 ++ x0 : List (S34))).bind fun y395 => ((some (([(⟨wrap64 ((wrap64 (((rd_T34 x0 (wrap64 ((x0.length : Int) - 1))).f0) + 1)) + (wrap64 (x2 / 16))), (rd_T34 x0 (wrap64 ((x0.length : Int) - 1))).f1⟩ : S34)] : List (S34)) : List (S34))).bind fun y398 => (if y395.length + y398.length < 8796093022208 then ((some (y395 ++ y398 : List (S34))).bind fun y401 => ((brackets_Tax.f k x0 (wrap64 (x1 / 16))).bind fun bt404 => ((brackets_Tax.f k y401 (wrap64 (x1 / 16))).bind fun bt406 => ((brackets_Parts.f k x0 (wrap64 (x1 / 16))).bind fun bt408 => ((brackets_Parts.f k y401 (wrap64 (x1 / 16))).bind fun bt412 => (if bt404.2 = 0 then (if bt406.2 = 0 then (if bt408.2 = 0 then (if bt412.2 = 0 then (if (bt408.1.length : Int) = (x0.length : Int) then (if (bt412.1.length : Int) = (y401.length : Int) then (if (wrap64 (bt404.1 - bt406.1)) ≥ 0 then (if (wrap64 (bt404.1 - bt406.1)) ≤ 1 then (if (wrap64 ((x0.length : Int) - 1)) < (bt412.1.length : Int) then (if 0 ≤ (x0.length : Int) then (if (x0.length : Int) < (bt412.1.length : Int) then (if (wrap64 ((x0.length : Int) - 1)) < (bt408.1.length : Int) then (if (wrap64 ((rd bt412.1 (wrap64 ((x0.length : Int) - 1))) + (rd bt412.1 (x0.length : Int)))) = (rd bt408.1 (wrap64 ((x0.length : Int) - 1))) then ((paymasterlaw05_awake.f k).bind fun t419 => (some t419)) else (none)) else (none)) else (none)) else (none)) else (none)) else (none)) else (none)) else (none)) else (none)) else (none)) else (none)) else (none)) else (none))))))) else (none)))) else (none)))) else (none)) else (none))
def paymasterlaw05_BracketsSplit.f (k : Nat) (l0 : List (S34)) (a1 : Int) (a2 : Int) : Option (Bool) := if (l0.length : Int) > 11 then (paymasterlaw05_BracketsSplit.j0 k l0 a1 a2 true) else ((paymasterref05_Right.f k l0).bind fun t387 => (paymasterlaw05_BracketsSplit.j0 k l0 a1 a2 (!t387)))
theorem paymasterlaw05_BracketsSplit.mono_l : ∀ k, (∀ y0 y1 y2 y3, LeO (paymasterlaw05_BracketsSplit.j0 k y0 y1 y2 y3) (paymasterlaw05_BracketsSplit.j0 (k + 1) y0 y1 y2 y3))
  | 0 => fun _ _ _ _ r h => by simp [paymasterlaw05_BracketsSplit.j0] at h
  | k + 1 => by
    have ih0 := paymasterlaw05_BracketsSplit.mono_l k
    · intro y0 y1 y2 y3
      unfold paymasterlaw05_BracketsSplit.j0
      repeat' first
      | (with_reducible exact ih0 _ _ _ _)
      | (with_reducible exact brackets_Parts.mono _ _ _)
      | (with_reducible exact brackets_Tax.mono _ _ _)
      | (with_reducible exact paymasterlaw05_awake.mono _)
      | (with_reducible exact paymasterref05_Right.mono _ _)
      | (with_reducible exact LeO.refl _)
      | (with_reducible exact LeO.none _)
      | (with_reducible refine LeO.ite ?_ ?_)
      | (with_reducible refine LeO.bind ?_ (fun _ => ?_))
      | exact ih0 _ _ _ _
      | exact brackets_Parts.mono _ _ _
      | exact brackets_Tax.mono _ _ _
      | exact paymasterlaw05_awake.mono _
      | exact paymasterref05_Right.mono _ _
      | exact LeO.none _
      | refine LeO.ite ?_ ?_
      | refine LeO.bind ?_ (fun _ => ?_)
theorem paymasterlaw05_BracketsSplit.mono : ∀ a0 a1 a2 k, LeO (paymasterlaw05_BracketsSplit.f k a0 a1 a2) (paymasterlaw05_BracketsSplit.f (k + 1) a0 a1 a2) := by
  intro a0 a1 a2 k
  have ih0 := paymasterlaw05_BracketsSplit.mono_l k
  unfold paymasterlaw05_BracketsSplit.f
  repeat' first
      | (with_reducible exact ih0 _ _ _ _)
      | (with_reducible exact brackets_Parts.mono _ _ _)
      | (with_reducible exact brackets_Tax.mono _ _ _)
      | (with_reducible exact paymasterlaw05_awake.mono _)
      | (with_reducible exact paymasterref05_Right.mono _ _)
      | (with_reducible exact LeO.refl _)
      | (with_reducible exact LeO.none _)
      | (with_reducible refine LeO.ite ?_ ?_)
      | (with_reducible refine LeO.bind ?_ (fun _ => ?_))
      | exact ih0 _ _ _ _
      | exact brackets_Parts.mono _ _ _
      | exact brackets_Tax.mono _ _ _
      | exact paymasterlaw05_awake.mono _
      | exact paymasterref05_Right.mono _ _
      | exact LeO.none _
      | refine LeO.ite ?_ ?_
      | refine LeO.bind ?_ (fun _ => ?_)
def paymasterlaw05_BracketsSplit.T7 : Bool × List (List Nat × List Nat) := (true, [([], []), ([], []), ([0, 1], [0, 1]), ([], []), ([3], [3]), ([4], [4]), ([], []), ([6], [6]), ([7], [7]), ([5, 8], [5, 8]), ([], []), ([10], [10]), ([9, 11], [9, 11]), ([12], [12]), ([2, 13, 2], [2, 13]), ([14, 14, 0, 1, 2, 3, 4, 5, 6, 7, 8, 9, 10, 11, 12, 13, 14], [14])])
def paymasterlaw05_BracketsSplit.B7 : List Nat := [0, 0, 3, 0, 8, 24, 0, 64, 192, 504, 0, 1024, 4088, 8184, 16383, 32767]
theorem paymasterlaw05_BracketsSplit.tab7 : rtab .any (opsOf Try.f8 7) = paymasterlaw05_BracketsSplit.T7 := by kernel_rfl
theorem paymasterlaw05_BracketsSplit.bits7 : waitsOk paymasterlaw05_BracketsSplit.T7.2 paymasterlaw05_BracketsSplit.B7 = true := by kernel_rfl
def paymasterlaw05_BracketsSplit.T15 : Bool × List (List Nat × List Nat) := (true, [([], []), ([], []), ([0, 1], [0, 1]), ([2], [2]), ([3], [3]), ([4], [4]), ([4], [4]), ([5, 6, 4], [4, 5, 6]), ([7, 4], [4, 7]), ([4, 8], [4, 8]), ([9, 4], [9]), ([10], [10]), ([10], [10]), ([12, 10], [10, 12]), ([11, 13, 10], [10, 11, 13]), ([14, 10], [10, 14]), ([10], [10]), ([10], [10]), ([16, 17, 10], [10, 16, 17]), ([18, 10], [10, 18]), ([15, 19, 10], [10, 15, 19]), ([10], [10]), ([10], [10]), ([22, 10], [10, 22]), ([21, 23, 10], [10, 21, 23]), ([24, 10], [10, 24]), ([20, 25, 10], [10, 20, 25]), ([10, 26], [10, 26]), ([27, 10], [27]), ([28, 28], [28]), ([28, 29], [28, 29]), ([30, 29, 0, 1, 2, 3, 4, 5, 6, 7, 8, 9, 10, 11, 12, 13, 14, 15, 16, 17, 18, 19, 20, 21, 22, 23, 24, 25, 26, 27, 28, 29, 30], [30])])
def paymasterlaw05_BracketsSplit.B15 : List Nat := [0, 0, 3, 7, 15, 31, 31, 127, 255, 511, 1023, 2047, 2047, 6143, 16383, 32767, 2047, 2047, 198655, 460799, 1048575, 2047, 2047, 4196351, 14682111, 31459327, 67108863, 134217727, 268435455, 536870911, 1073741823, 2147483647]
theorem paymasterlaw05_BracketsSplit.tab15 : rtab .any (opsOf Try.f8 15) = paymasterlaw05_BracketsSplit.T15 := by kernel_rfl
theorem paymasterlaw05_BracketsSplit.bits15 : waitsOk paymasterlaw05_BracketsSplit.T15.2 paymasterlaw05_BracketsSplit.B15 = true := by kernel_rfl
set_option maxHeartbeats 8000000 in
set_option maxRecDepth 100000 in
theorem paymasterlaw05_BracketsSplit.calls (k : Nat) (A0 : Option Addr) (c0 : Nat) (l0 : List (S34)) (a1 : Int) (a2 : Int) (r : Bool) (w : World) (hr0 : Kd.C k34 w A0 l0.length l0) (hc0 : l0.length ≤ c0) (h : paymasterlaw05_BracketsSplit.f k l0 a1 a2 = some r) :
    Calls Try.prog 8 #[.slice A0 l0.length c0, .int .u64 a1, .int .u64 a2] w fun e w' => e = .returned (.bool r) ∧ Below w.heap.size w w' := by
  have hu34 := Try.underlying34
  have HR0 := Aside0.mk hr0
  have HC0 := Aside0.mk hc0
  clear hr0 hc0
  have HB := Aside0.mk (Below.refl w.heap.size w)
  have H : (if (l0.length : Int) > 11 then (paymasterlaw05_BracketsSplit.j0 k l0 a1 a2 true) else ((paymasterref05_Right.f k l0).bind fun t387 => (paymasterlaw05_BracketsSplit.j0 k l0 a1 a2 (!t387)))) = some r := h
  clear h
  have HC4 := Aside0.mk H
  clear H
  go_enter Try.func8, Try.ntmps8
  go_upto_region 1 with (fail)
  go_cut [26] (fun v26 wc => ∃ (kq : Nat) (x26_3 : Bool), v26 = .bool x26_3 ∧ Aside0 (paymasterlaw05_BracketsSplit.j0 kq l0 a1 a2 x26_3 = some r) ∧ Aside0 (kq ≤ k) ∧ Aside0 (Below w.heap.size w wc))
  case first =>
    have H := HC4.out
    clear HC4
    by_cases c5 : (l0.length : Int) > 11
    · rw [if_pos c5] at H
      have c5b0 : decide (11 < (l0.length : Int)) = true := decide_eq_true c5
      have c5b1 : decide (11 < l0.length) = true := decide_eq_true (by omega)
      clear c5
      (first | rw [c5b0] | (simp only [i64_w, i32_w]; rw [c5b0]) | skip)
      have H' := Aside0.mk H
      clear H
      go_wp2
      go_meet
      case rel => exact ⟨_, (true), (by first | rfl | (simp; done) | (simp [*]; done)), H', ⟨by first | omega | exact Nat.le_refl _⟩, ⟨by repeat (first | (with_reducible first | exact HB.out | apply below_alloc | apply pw_below_drewN | apply below_drew1) | exact HB.out)⟩⟩
    · rw [if_neg c5] at H
      have c5b0 : decide (11 < (l0.length : Int)) = false := decide_eq_false c5
      have c5b1 : decide (11 < l0.length) = false := decide_eq_false (by omega)
      clear c5
      (first | rw [c5b0] | (simp only [i64_w, i32_w]; rw [c5b0]) | skip)
      replace H := Option.bind_eq_some_iff.mp H
      obtain ⟨t387, A60, H⟩ := H
      replace H : (paymasterlaw05_BracketsSplit.j0 k l0 a1 a2 (!t387)) = some r := H
      have A6 := Aside0.mk A60
      clear A60
      have H' := Aside0.mk H
      clear H
      go_wp2_with (first | (go_at_call 13; (with_reducible refine (paymasterref05_Right.calls k _ _ l0 t387 _ ?side1 ?side2 A6.out).mono ?_); (case side1 => repeat (first | exact (Kd.C_below HR0.out HB.out) | (with_reducible refine Kd.C_alloc ?_ _) | (with_reducible refine Kd.C_drewN ?_ _) | (with_reducible refine Kd.C_drew ?_))); (case side2 => exact HC0.out); rintro e w' ⟨rfl, ⟨nd, rfl⟩⟩))
      go_meet
      case rel => exact ⟨_, (!t387), (by first | rfl | (simp; done) | (simp [*]; done)), H', ⟨by first | omega | exact Nat.le_refl _⟩, ⟨by repeat (first | (with_reducible first | exact HB.out | apply below_alloc | apply pw_below_drewN | apply below_drew1) | exact HB.out)⟩⟩
  case rest =>
    clear HC4
    try clear p2
    try clear c5
    try clear c5b0
    try clear c5b1
    obtain ⟨kq, x26_3, rfl, HA, HJ3, HB⟩ := hcut
    cases kq with
    | zero => exact absurd HA.out (by simp [paymasterlaw05_BracketsSplit.j0])
    | succ kj3 =>
      have H := HA.out
      clear HA
      simp only [paymasterlaw05_BracketsSplit.j0] at H
      by_cases c7 : x26_3 = true
      · subst c7
        have H1 : ((paymasterlaw05_awake.f kj3).bind fun t388 => (some t388)) = some r := by rw [if_pos rfl] at H; exact H
        clear H
        have H := H1
        clear H1
        replace H := Option.bind_eq_some_iff.mp H
        obtain ⟨t388, A80, H⟩ := H
        replace H : (some t388) = some r := H
        have A8 := Aside0.mk A80
        clear A80
        obtain rfl := Option.some.inj H
        go_wp2_with (first | ((with_reducible refine gate_callee (f := 9) rfl ?_); refine goesL_ (some 27) rfl rfl Try.func9 (by kernel_rfl) rfl #[] rfl (by (try simp only [List.map_toArray, List.map_cons, List.map_nil]); first | done | rfl | (simp only [List.length_drop, List.length_take]; rfl)) ?_; (with_reducible refine (paymasterlaw05_awake.calls kj3  t388 _ A8.out).mono ?_); rintro e w9 ⟨rfl, hb⟩; refine ⟨_, rfl, ?_⟩; have n0_ := Aside0.mk (below_step (by repeat (first | (with_reducible first | exact HB.out | apply below_alloc | apply pw_below_drewN | apply below_drew1) | exact HB.out)) hb); clear HB; have HB := n0_; clear n0_; (try clear hb); (try clear hb2); (try clear hk); (try clear hi)))
        go_ret
        exact ⟨by first | rfl | (simp [errW_none, errW_some] <;> rfl) | (simp [*, errW_none, errW_some] <;> rfl), by repeat (first | (with_reducible first | exact HB.out | apply below_alloc | apply pw_below_drewN | apply below_drew1) | exact HB.out)⟩
      · replace c7 := Bool.eq_false_iff.mpr c7
        subst c7
        have H1 : (if 0 ≤ (wrap64 ((l0.length : Int) - 1)) then (if (wrap64 ((l0.length : Int) - 1)) < (l0.length : Int) then (if ((rd_T34 l0 (wrap64 ((l0.length : Int) - 1))).f0) > 1152921504606846976 then ((paymasterlaw05_awake.f kj3).bind fun t391 => (some t391)) else ((some (([] : List (S34)) : List (S34))).bind fun y392 => (if y392.length + l0.length < 8796093022208 then ((some (y392 ++ l0 : List (S34))).bind fun y395 => ((some (([(⟨wrap64 ((wrap64 (((rd_T34 l0 (wrap64 ((l0.length : Int) - 1))).f0) + 1)) + (wrap64 (a2 / 16))), (rd_T34 l0 (wrap64 ((l0.length : Int) - 1))).f1⟩ : S34)] : List (S34)) : List (S34))).bind fun y398 => (if y395.length + y398.length < 8796093022208 then ((some (y395 ++ y398 : List (S34))).bind fun y401 => ((brackets_Tax.f kj3 l0 (wrap64 (a1 / 16))).bind fun bt404 => ((brackets_Tax.f kj3 y401 (wrap64 (a1 / 16))).bind fun bt406 => ((brackets_Parts.f kj3 l0 (wrap64 (a1 / 16))).bind fun bt408 => ((brackets_Parts.f kj3 y401 (wrap64 (a1 / 16))).bind fun bt412 => (if bt404.2 = 0 then (if bt406.2 = 0 then (if bt408.2 = 0 then (if bt412.2 = 0 then (if (bt408.1.length : Int) = (l0.length : Int) then (if (bt412.1.length : Int) = (y401.length : Int) then (if (wrap64 (bt404.1 - bt406.1)) ≥ 0 then (if (wrap64 (bt404.1 - bt406.1)) ≤ 1 then (if (wrap64 ((l0.length : Int) - 1)) < (bt412.1.length : Int) then (if 0 ≤ (l0.length : Int) then (if (l0.length : Int) < (bt412.1.length : Int) then (if (wrap64 ((l0.length : Int) - 1)) < (bt408.1.length : Int) then (if (wrap64 ((rd bt412.1 (wrap64 ((l0.length : Int) - 1))) + (rd bt412.1 (l0.length : Int)))) = (rd bt408.1 (wrap64 ((l0.length : Int) - 1))) then ((paymasterlaw05_awake.f kj3).bind fun t419 => (some t419)) else (none)) else (none)) else (none)) else (none)) else (none)) else (none)) else (none)) else (none)) else (none)) else (none)) else (none)) else (none)) else (none))))))) else (none)))) else (none)))) else (none)) else (none)) = some r := by rw [if_neg (show ¬ (false = true) by decide)] at H; exact H
        clear H
        have H := H1
        clear H1
        obtain ⟨ji10, hji10⟩ : ∃ j_ : Int, (wrap64 ((l0.length : Int) - 1)) = j_ := ⟨_, rfl⟩
        replace H : (if 0 ≤ (ji10) then (if (ji10) < (l0.length : Int) then (if ((rd_T34 l0 (ji10)).f0) > 1152921504606846976 then ((paymasterlaw05_awake.f kj3).bind fun t391 => (some t391)) else ((some (([] : List (S34)) : List (S34))).bind fun y392 => (if y392.length + l0.length < 8796093022208 then ((some (y392 ++ l0 : List (S34))).bind fun y395 => ((some (([(⟨wrap64 ((wrap64 (((rd_T34 l0 (ji10)).f0) + 1)) + (wrap64 (a2 / 16))), (rd_T34 l0 (ji10)).f1⟩ : S34)] : List (S34)) : List (S34))).bind fun y398 => (if y395.length + y398.length < 8796093022208 then ((some (y395 ++ y398 : List (S34))).bind fun y401 => ((brackets_Tax.f kj3 l0 (wrap64 (a1 / 16))).bind fun bt404 => ((brackets_Tax.f kj3 y401 (wrap64 (a1 / 16))).bind fun bt406 => ((brackets_Parts.f kj3 l0 (wrap64 (a1 / 16))).bind fun bt408 => ((brackets_Parts.f kj3 y401 (wrap64 (a1 / 16))).bind fun bt412 => (if bt404.2 = 0 then (if bt406.2 = 0 then (if bt408.2 = 0 then (if bt412.2 = 0 then (if (bt408.1.length : Int) = (l0.length : Int) then (if (bt412.1.length : Int) = (y401.length : Int) then (if (wrap64 (bt404.1 - bt406.1)) ≥ 0 then (if (wrap64 (bt404.1 - bt406.1)) ≤ 1 then (if (ji10) < (bt412.1.length : Int) then (if 0 ≤ (l0.length : Int) then (if (l0.length : Int) < (bt412.1.length : Int) then (if (ji10) < (bt408.1.length : Int) then (if (wrap64 ((rd bt412.1 (ji10)) + (rd bt412.1 (l0.length : Int)))) = (rd bt408.1 (ji10)) then ((paymasterlaw05_awake.f kj3).bind fun t419 => (some t419)) else (none)) else (none)) else (none)) else (none)) else (none)) else (none)) else (none)) else (none)) else (none)) else (none)) else (none)) else (none)) else (none))))))) else (none)))) else (none)))) else (none)) else (none)) = some r := by first | (rw [hji10] at H; exact H) | (simp only [hji10] at H ⊢; exact H)
        have hji10w : (IntKind.i64.wrap ((l0.length : Int) - 1)) = ji10 := (i64_w _).trans hji10
        by_cases c11 : 0 ≤ (ji10)
        · rw [if_pos c11] at H
          have c11b0 : decide (0 ≤ (ji10)) = true := decide_eq_true c11
          clear c11
          by_cases c12 : (ji10) < (l0.length : Int)
          · rw [if_pos c12] at H
            have c12b0 : decide ((ji10) < (l0.length : Int)) = true := decide_eq_true c12
            clear c12
            by_cases c13 : ((rd_T34 l0 (ji10)).f0) > 1152921504606846976
            · rw [if_pos c13] at H
              have c13b0 : decide (1152921504606846976 < ((rd_T34 l0 (ji10)).f0)) = true := decide_eq_true c13
              clear c13
              replace H := Option.bind_eq_some_iff.mp H
              obtain ⟨t391, A140, H⟩ := H
              replace H : (some t391) = some r := H
              have A14 := Aside0.mk A140
              clear A140
              obtain rfl := Option.some.inj H
              have p389 : 0 ≤ ((ji10) : Int) := of_decide_eq_true (by first | (with_reducible assumption) | assumption)
              have q389 : (ji10) < (l0.length : Int) := of_decide_eq_true (by first | (with_reducible assumption) | assumption)
              obtain ⟨ad389, e389, hx389_0, hx389_1⟩ := at_T34 HR0.out (ji10) p389 q389
              cases e389
              replace hx389_0 := (HB.out.cell (World.block_lt_of_cell? w _ hx389_0)).trans hx389_0
              replace hx389_1 := (HB.out.cell (World.block_lt_of_cell? w _ hx389_1)).trans hx389_1
              replace p389 := eq_true p389
              replace q389 := eq_true q389
              go_wp2_with (first | ((with_reducible refine gate_dst (N := 8) rfl ?_); (try (refine gate_guard (by rfl) ?_; dsimp only)); refine box_event ?hg (N := 8) ?hd (cs := #[.int .i64 0, .int .i64 0]) (t := 34) ?hr ?_; (case hd => rfl); (case hg => rfl); (case hr => first | (go_simp; done) | (go_simp; rfl)); intro gb390 hg w15 hbox hb; have n0_ := Aside0.mk (below_step (by repeat (first | (with_reducible first | exact HB.out | apply below_alloc | apply pw_below_drewN | apply below_drew1) | exact HB.out)) hb); have n1_ := Aside0.mk (hbox); have n2_ := Aside0.mk ((by rw [hg]; exact (below_size (by repeat (first | (with_reducible first | exact HB.out | apply below_alloc | apply pw_below_drewN | apply below_drew1) | exact HB.out))) : w.heap.size ≤ gb390)); have n3_ := Aside0.mk ((by rw [hg]; exact (below_size (by repeat (first | (with_reducible first | exact HB.out | apply below_alloc | apply pw_below_drewN | apply below_drew1) | exact HB.out))) : w.heap.size ≤ gb390)); clear HB; have HB := n0_; have BK390 := n1_; have GW390 := n2_; have GE390 := n3_; clear n0_ n1_ n2_ n3_; clear hb hbox hg; have hcz16_0 : w15.cell? ⟨gb390, 0, none⟩ = some (.int .i64 0) := (blk_cell BK390.out 0).trans rfl; have hcz16_1 : w15.cell? ⟨gb390, 1, none⟩ = some (.int .i64 0) := (blk_cell BK390.out 1).trans rfl; have hfz16_0 := blk_frozen BK390.out 0; have hfz16_1 := blk_frozen BK390.out 1) | ((with_reducible refine gate_callee (f := 9) rfl ?_); refine goesL_ (some 40) rfl rfl Try.func9 (by kernel_rfl) rfl #[] rfl (by (try simp only [List.map_toArray, List.map_cons, List.map_nil]); first | done | rfl | (simp only [List.length_drop, List.length_take]; rfl)) ?_; (with_reducible refine (paymasterlaw05_awake.calls kj3  t391 _ A14.out).mono ?_); rintro e w17 ⟨rfl, hb⟩; refine ⟨_, rfl, ?_⟩; have n0_ := Aside0.mk (blk_below (g := gb390) (o := .cells #[.int .i64 ((rd_T34 l0 (ji10)).f0), .int .i64 ((rd_T34 l0 (ji10)).f1)] 34 (0, 0)) (by (with_reducible repeat (first | refine blk_drewN ?_ _ | refine blk_drew ?_ | refine blk_alloc ?_ _)); refine blk_put (cs := #[.int .i64 ((rd_T34 l0 (ji10)).f0), .int .i64 0]) ?_ 1 _ rfl; (with_reducible repeat (first | refine blk_drewN ?_ _ | refine blk_drew ?_ | refine blk_alloc ?_ _)); refine blk_put (cs := #[.int .i64 0, .int .i64 0]) ?_ 0 _ rfl; (with_reducible repeat (first | refine blk_drewN ?_ _ | refine blk_drew ?_ | refine blk_alloc ?_ _)); exact BK390.out) hb); have n1_ := Aside0.mk (below_step (by repeat (first | (with_reducible first | exact HB.out | apply below_alloc | apply pw_below_drewN | apply below_drew1 | refine below_set ?_ GE390.out) | exact HB.out)) hb); clear BK390; clear HB; have BK390 := n0_; have HB := n1_; clear n0_ n1_; (try clear hb); (try clear hb2); (try clear hk); (try clear hi)))
              go_ret
              exact ⟨by first | rfl | (simp [errW_none, errW_some] <;> rfl) | (simp only [← hji10]; first | rfl | (simp [errW_none, errW_some] <;> rfl)) | (simp [*, errW_none, errW_some] <;> rfl), by repeat (first | (with_reducible first | exact HB.out | apply below_alloc | apply pw_below_drewN | apply below_drew1 | refine below_set ?_ GE390.out) | exact HB.out)⟩
            · rw [if_neg c13] at H
              have c13b0 : decide (1152921504606846976 < ((rd_T34 l0 (ji10)).f0)) = false := decide_eq_false c13
              clear c13
              obtain ⟨y392, hy392⟩ : ∃ y_ : List (S34), y_ = (([] : List (S34))) := ⟨_, rfl⟩
              replace H : (if y392.length + l0.length < 8796093022208 then ((some (y392 ++ l0 : List (S34))).bind fun y395 => ((some (([(⟨wrap64 ((wrap64 (((rd_T34 l0 (ji10)).f0) + 1)) + (wrap64 (a2 / 16))), (rd_T34 l0 (ji10)).f1⟩ : S34)] : List (S34)) : List (S34))).bind fun y398 => (if y395.length + y398.length < 8796093022208 then ((some (y395 ++ y398 : List (S34))).bind fun y401 => ((brackets_Tax.f kj3 l0 (wrap64 (a1 / 16))).bind fun bt404 => ((brackets_Tax.f kj3 y401 (wrap64 (a1 / 16))).bind fun bt406 => ((brackets_Parts.f kj3 l0 (wrap64 (a1 / 16))).bind fun bt408 => ((brackets_Parts.f kj3 y401 (wrap64 (a1 / 16))).bind fun bt412 => (if bt404.2 = 0 then (if bt406.2 = 0 then (if bt408.2 = 0 then (if bt412.2 = 0 then (if (bt408.1.length : Int) = (l0.length : Int) then (if (bt412.1.length : Int) = (y401.length : Int) then (if (wrap64 (bt404.1 - bt406.1)) ≥ 0 then (if (wrap64 (bt404.1 - bt406.1)) ≤ 1 then (if (ji10) < (bt412.1.length : Int) then (if 0 ≤ (l0.length : Int) then (if (l0.length : Int) < (bt412.1.length : Int) then (if (ji10) < (bt408.1.length : Int) then (if (wrap64 ((rd bt412.1 (ji10)) + (rd bt412.1 (l0.length : Int)))) = (rd bt408.1 (ji10)) then ((paymasterlaw05_awake.f kj3).bind fun t419 => (some t419)) else (none)) else (none)) else (none)) else (none)) else (none)) else (none)) else (none)) else (none)) else (none)) else (none)) else (none)) else (none)) else (none))))))) else (none)))) else (none)) = some r := by first | (rw [hy392]; with_reducible exact H) | (have H2_ := (Option.bind_some _ _).symm.trans H; rw [hy392]; with_reducible exact H2_) | (have H2_ := (Option.bind_some _ _).symm.trans H; with_reducible exact H2_) | with_reducible exact H | (rw [hy392]; exact H) | exact H
              have Ny392 := Aside0.mk hy392
              clear hy392
              by_cases c18 : y392.length + l0.length < 8796093022208
              · rw [if_pos c18] at H
                have LMc18 := Aside0.mk c18
                clear c18
                obtain ⟨y395, hy395⟩ : ∃ y_ : List (S34), y_ = (y392 ++ l0) := ⟨_, rfl⟩
                replace H : ((some (([(⟨wrap64 ((wrap64 (((rd_T34 l0 (ji10)).f0) + 1)) + (wrap64 (a2 / 16))), (rd_T34 l0 (ji10)).f1⟩ : S34)] : List (S34)) : List (S34))).bind fun y398 => (if y395.length + y398.length < 8796093022208 then ((some (y395 ++ y398 : List (S34))).bind fun y401 => ((brackets_Tax.f kj3 l0 (wrap64 (a1 / 16))).bind fun bt404 => ((brackets_Tax.f kj3 y401 (wrap64 (a1 / 16))).bind fun bt406 => ((brackets_Parts.f kj3 l0 (wrap64 (a1 / 16))).bind fun bt408 => ((brackets_Parts.f kj3 y401 (wrap64 (a1 / 16))).bind fun bt412 => (if bt404.2 = 0 then (if bt406.2 = 0 then (if bt408.2 = 0 then (if bt412.2 = 0 then (if (bt408.1.length : Int) = (l0.length : Int) then (if (bt412.1.length : Int) = (y401.length : Int) then (if (wrap64 (bt404.1 - bt406.1)) ≥ 0 then (if (wrap64 (bt404.1 - bt406.1)) ≤ 1 then (if (ji10) < (bt412.1.length : Int) then (if 0 ≤ (l0.length : Int) then (if (l0.length : Int) < (bt412.1.length : Int) then (if (ji10) < (bt408.1.length : Int) then (if (wrap64 ((rd bt412.1 (ji10)) + (rd bt412.1 (l0.length : Int)))) = (rd bt408.1 (ji10)) then ((paymasterlaw05_awake.f kj3).bind fun t419 => (some t419)) else (none)) else (none)) else (none)) else (none)) else (none)) else (none)) else (none)) else (none)) else (none)) else (none)) else (none)) else (none)) else (none))))))) else (none))) = some r := by first | (rw [hy395]; with_reducible exact H) | (have H2_ := (Option.bind_some _ _).symm.trans H; rw [hy395]; with_reducible exact H2_) | (have H2_ := (Option.bind_some _ _).symm.trans H; with_reducible exact H2_) | with_reducible exact H | (rw [hy395]; exact H) | exact H
                have Ny395 := Aside0.mk hy395
                clear hy395
                obtain ⟨y398, hy398⟩ : ∃ y_ : List (S34), y_ = (([(⟨wrap64 ((wrap64 (((rd_T34 l0 (ji10)).f0) + 1)) + (wrap64 (a2 / 16))), (rd_T34 l0 (ji10)).f1⟩ : S34)] : List (S34))) := ⟨_, rfl⟩
                replace H : (if y395.length + y398.length < 8796093022208 then ((some (y395 ++ y398 : List (S34))).bind fun y401 => ((brackets_Tax.f kj3 l0 (wrap64 (a1 / 16))).bind fun bt404 => ((brackets_Tax.f kj3 y401 (wrap64 (a1 / 16))).bind fun bt406 => ((brackets_Parts.f kj3 l0 (wrap64 (a1 / 16))).bind fun bt408 => ((brackets_Parts.f kj3 y401 (wrap64 (a1 / 16))).bind fun bt412 => (if bt404.2 = 0 then (if bt406.2 = 0 then (if bt408.2 = 0 then (if bt412.2 = 0 then (if (bt408.1.length : Int) = (l0.length : Int) then (if (bt412.1.length : Int) = (y401.length : Int) then (if (wrap64 (bt404.1 - bt406.1)) ≥ 0 then (if (wrap64 (bt404.1 - bt406.1)) ≤ 1 then (if (ji10) < (bt412.1.length : Int) then (if 0 ≤ (l0.length : Int) then (if (l0.length : Int) < (bt412.1.length : Int) then (if (ji10) < (bt408.1.length : Int) then (if (wrap64 ((rd bt412.1 (ji10)) + (rd bt412.1 (l0.length : Int)))) = (rd bt408.1 (ji10)) then ((paymasterlaw05_awake.f kj3).bind fun t419 => (some t419)) else (none)) else (none)) else (none)) else (none)) else (none)) else (none)) else (none)) else (none)) else (none)) else (none)) else (none)) else (none)) else (none))))))) else (none)) = some r := by first | (rw [hy398]; with_reducible exact H) | (have H2_ := (Option.bind_some _ _).symm.trans H; rw [hy398]; with_reducible exact H2_) | (have H2_ := (Option.bind_some _ _).symm.trans H; with_reducible exact H2_) | with_reducible exact H | (rw [hy398]; exact H) | exact H
                have Ny398 := Aside0.mk hy398
                clear hy398
                by_cases c19 : y395.length + y398.length < 8796093022208
                · rw [if_pos c19] at H
                  have LMc19 := Aside0.mk c19
                  clear c19
                  obtain ⟨y401, hy401⟩ : ∃ y_ : List (S34), y_ = (y395 ++ y398) := ⟨_, rfl⟩
                  replace H : ((brackets_Tax.f kj3 l0 (wrap64 (a1 / 16))).bind fun bt404 => ((brackets_Tax.f kj3 y401 (wrap64 (a1 / 16))).bind fun bt406 => ((brackets_Parts.f kj3 l0 (wrap64 (a1 / 16))).bind fun bt408 => ((brackets_Parts.f kj3 y401 (wrap64 (a1 / 16))).bind fun bt412 => (if bt404.2 = 0 then (if bt406.2 = 0 then (if bt408.2 = 0 then (if bt412.2 = 0 then (if (bt408.1.length : Int) = (l0.length : Int) then (if (bt412.1.length : Int) = (y401.length : Int) then (if (wrap64 (bt404.1 - bt406.1)) ≥ 0 then (if (wrap64 (bt404.1 - bt406.1)) ≤ 1 then (if (ji10) < (bt412.1.length : Int) then (if 0 ≤ (l0.length : Int) then (if (l0.length : Int) < (bt412.1.length : Int) then (if (ji10) < (bt408.1.length : Int) then (if (wrap64 ((rd bt412.1 (ji10)) + (rd bt412.1 (l0.length : Int)))) = (rd bt408.1 (ji10)) then ((paymasterlaw05_awake.f kj3).bind fun t419 => (some t419)) else (none)) else (none)) else (none)) else (none)) else (none)) else (none)) else (none)) else (none)) else (none)) else (none)) else (none)) else (none)) else (none)))))) = some r := by first | (rw [hy401]; with_reducible exact H) | (have H2_ := (Option.bind_some _ _).symm.trans H; rw [hy401]; with_reducible exact H2_) | (have H2_ := (Option.bind_some _ _).symm.trans H; with_reducible exact H2_) | with_reducible exact H | (rw [hy401]; exact H) | exact H
                  have Ny401 := Aside0.mk hy401
                  clear hy401
                  replace H := Option.bind_eq_some_iff.mp H
                  obtain ⟨⟨t404, t405⟩, A200, H⟩ := H
                  replace H : ((brackets_Tax.f kj3 y401 (wrap64 (a1 / 16))).bind fun bt406 => ((brackets_Parts.f kj3 l0 (wrap64 (a1 / 16))).bind fun bt408 => ((brackets_Parts.f kj3 y401 (wrap64 (a1 / 16))).bind fun bt412 => (if t405 = 0 then (if bt406.2 = 0 then (if bt408.2 = 0 then (if bt412.2 = 0 then (if (bt408.1.length : Int) = (l0.length : Int) then (if (bt412.1.length : Int) = (y401.length : Int) then (if (wrap64 (t404 - bt406.1)) ≥ 0 then (if (wrap64 (t404 - bt406.1)) ≤ 1 then (if (ji10) < (bt412.1.length : Int) then (if 0 ≤ (l0.length : Int) then (if (l0.length : Int) < (bt412.1.length : Int) then (if (ji10) < (bt408.1.length : Int) then (if (wrap64 ((rd bt412.1 (ji10)) + (rd bt412.1 (l0.length : Int)))) = (rd bt408.1 (ji10)) then ((paymasterlaw05_awake.f kj3).bind fun t419 => (some t419)) else (none)) else (none)) else (none)) else (none)) else (none)) else (none)) else (none)) else (none)) else (none)) else (none)) else (none)) else (none)) else (none))))) = some r := H
                  have A20 := Aside0.mk A200
                  clear A200
                  replace H := Option.bind_eq_some_iff.mp H
                  obtain ⟨⟨t406, t407⟩, A210, H⟩ := H
                  replace H : ((brackets_Parts.f kj3 l0 (wrap64 (a1 / 16))).bind fun bt408 => ((brackets_Parts.f kj3 y401 (wrap64 (a1 / 16))).bind fun bt412 => (if t405 = 0 then (if t407 = 0 then (if bt408.2 = 0 then (if bt412.2 = 0 then (if (bt408.1.length : Int) = (l0.length : Int) then (if (bt412.1.length : Int) = (y401.length : Int) then (if (wrap64 (t404 - t406)) ≥ 0 then (if (wrap64 (t404 - t406)) ≤ 1 then (if (ji10) < (bt412.1.length : Int) then (if 0 ≤ (l0.length : Int) then (if (l0.length : Int) < (bt412.1.length : Int) then (if (ji10) < (bt408.1.length : Int) then (if (wrap64 ((rd bt412.1 (ji10)) + (rd bt412.1 (l0.length : Int)))) = (rd bt408.1 (ji10)) then ((paymasterlaw05_awake.f kj3).bind fun t419 => (some t419)) else (none)) else (none)) else (none)) else (none)) else (none)) else (none)) else (none)) else (none)) else (none)) else (none)) else (none)) else (none)) else (none)))) = some r := H
                  have A21 := Aside0.mk A210
                  clear A210
                  replace H := Option.bind_eq_some_iff.mp H
                  obtain ⟨⟨t408, t409⟩, A220, H⟩ := H
                  replace H : ((brackets_Parts.f kj3 y401 (wrap64 (a1 / 16))).bind fun bt412 => (if t405 = 0 then (if t407 = 0 then (if t409 = 0 then (if bt412.2 = 0 then (if (t408.length : Int) = (l0.length : Int) then (if (bt412.1.length : Int) = (y401.length : Int) then (if (wrap64 (t404 - t406)) ≥ 0 then (if (wrap64 (t404 - t406)) ≤ 1 then (if (ji10) < (bt412.1.length : Int) then (if 0 ≤ (l0.length : Int) then (if (l0.length : Int) < (bt412.1.length : Int) then (if (ji10) < (t408.length : Int) then (if (wrap64 ((rd bt412.1 (ji10)) + (rd bt412.1 (l0.length : Int)))) = (rd t408 (ji10)) then ((paymasterlaw05_awake.f kj3).bind fun t419 => (some t419)) else (none)) else (none)) else (none)) else (none)) else (none)) else (none)) else (none)) else (none)) else (none)) else (none)) else (none)) else (none)) else (none))) = some r := H
                  have A22 := Aside0.mk A220
                  clear A220
                  replace H := Option.bind_eq_some_iff.mp H
                  obtain ⟨⟨t412, t413⟩, A230, H⟩ := H
                  replace H : (if t405 = 0 then (if t407 = 0 then (if t409 = 0 then (if t413 = 0 then (if (t408.length : Int) = (l0.length : Int) then (if (t412.length : Int) = (y401.length : Int) then (if (wrap64 (t404 - t406)) ≥ 0 then (if (wrap64 (t404 - t406)) ≤ 1 then (if (ji10) < (t412.length : Int) then (if 0 ≤ (l0.length : Int) then (if (l0.length : Int) < (t412.length : Int) then (if (ji10) < (t408.length : Int) then (if (wrap64 ((rd t412 (ji10)) + (rd t412 (l0.length : Int)))) = (rd t408 (ji10)) then ((paymasterlaw05_awake.f kj3).bind fun t419 => (some t419)) else (none)) else (none)) else (none)) else (none)) else (none)) else (none)) else (none)) else (none)) else (none)) else (none)) else (none)) else (none)) else (none)) = some r := H
                  have A23 := Aside0.mk A230
                  clear A230
                  by_cases c24 : t405 = 0
                  · rw [if_pos c24] at H
                    have c24b0 : (t405 == 0) = true := beq_iff_eq.mpr c24
                    have c24b1 : (t405 != 0) = false := bne_eq_false_iff_eq.mpr c24
                    clear c24
                    by_cases c25 : t407 = 0
                    · rw [if_pos c25] at H
                      have c25b0 : (t407 == 0) = true := beq_iff_eq.mpr c25
                      have c25b1 : (t407 != 0) = false := bne_eq_false_iff_eq.mpr c25
                      clear c25
                      by_cases c26 : t409 = 0
                      · rw [if_pos c26] at H
                        have c26b0 : (t409 == 0) = true := beq_iff_eq.mpr c26
                        have c26b1 : (t409 != 0) = false := bne_eq_false_iff_eq.mpr c26
                        clear c26
                        by_cases c27 : t413 = 0
                        · rw [if_pos c27] at H
                          have c27b0 : (t413 == 0) = true := beq_iff_eq.mpr c27
                          have c27b1 : (t413 != 0) = false := bne_eq_false_iff_eq.mpr c27
                          clear c27
                          by_cases c28 : (t408.length : Int) = (l0.length : Int)
                          · rw [if_pos c28] at H
                            have c28b0 : ((t408.length : Int) == (l0.length : Int)) = true := beq_iff_eq.mpr c28
                            have c28b1 : ((t408.length : Int) != (l0.length : Int)) = false := bne_eq_false_iff_eq.mpr c28
                            have c28b2 : (t408.length == l0.length) = true := by first | simpa using c28 | (simp at c28 ⊢; omega)
                            clear c28
                            by_cases c29 : (t412.length : Int) = (y401.length : Int)
                            · rw [if_pos c29] at H
                              have c29b0 : ((t412.length : Int) == (y401.length : Int)) = true := beq_iff_eq.mpr c29
                              have c29b1 : ((t412.length : Int) != (y401.length : Int)) = false := bne_eq_false_iff_eq.mpr c29
                              have c29b2 : (t412.length == y401.length) = true := by first | simpa using c29 | (simp at c29 ⊢; omega)
                              clear c29
                              by_cases c30 : (wrap64 (t404 - t406)) ≥ 0
                              · rw [if_pos c30] at H
                                have c30b0 : decide (0 ≤ (wrap64 (t404 - t406))) = true := decide_eq_true c30
                                clear c30
                                by_cases c31 : (wrap64 (t404 - t406)) ≤ 1
                                · rw [if_pos c31] at H
                                  have c31b0 : decide ((wrap64 (t404 - t406)) ≤ 1) = true := decide_eq_true c31
                                  clear c31
                                  by_cases c32 : (ji10) < (t412.length : Int)
                                  · rw [if_pos c32] at H
                                    have c32b0 : decide ((ji10) < (t412.length : Int)) = true := decide_eq_true c32
                                    clear c32
                                    by_cases c33 : 0 ≤ (l0.length : Int)
                                    · rw [if_pos c33] at H
                                      have c33b0 : decide (0 ≤ (l0.length : Int)) = true := decide_eq_true c33
                                      have c33b1 : decide (0 ≤ l0.length) = true := decide_eq_true (by omega)
                                      clear c33
                                      by_cases c34 : (l0.length : Int) < (t412.length : Int)
                                      · rw [if_pos c34] at H
                                        have c34b0 : decide ((l0.length : Int) < (t412.length : Int)) = true := decide_eq_true c34
                                        have c34b1 : decide (l0.length < t412.length) = true := decide_eq_true (Int.ofNat_lt.mp c34)
                                        clear c34
                                        by_cases c35 : (ji10) < (t408.length : Int)
                                        · rw [if_pos c35] at H
                                          have c35b0 : decide ((ji10) < (t408.length : Int)) = true := decide_eq_true c35
                                          clear c35
                                          by_cases c36 : (wrap64 ((rd t412 (ji10)) + (rd t412 (l0.length : Int)))) = (rd t408 (ji10))
                                          · rw [if_pos c36] at H
                                            have c36b0 : ((wrap64 ((rd t412 (ji10)) + (rd t412 (l0.length : Int)))) == (rd t408 (ji10))) = true := beq_iff_eq.mpr c36
                                            have c36b1 : ((wrap64 ((rd t412 (ji10)) + (rd t412 (l0.length : Int)))) != (rd t408 (ji10))) = false := bne_eq_false_iff_eq.mpr c36
                                            clear c36
                                            replace H := Option.bind_eq_some_iff.mp H
                                            obtain ⟨t419, A370, H⟩ := H
                                            replace H : (some t419) = some r := H
                                            have A37 := Aside0.mk A370
                                            clear A370
                                            obtain rfl := Option.some.inj H
                                            have p389 : 0 ≤ ((ji10) : Int) := of_decide_eq_true (by first | (with_reducible assumption) | assumption)
                                            have q389 : (ji10) < (l0.length : Int) := of_decide_eq_true (by first | (with_reducible assumption) | assumption)
                                            obtain ⟨ad389, e389, hx389_0, hx389_1⟩ := at_T34 HR0.out (ji10) p389 q389
                                            cases e389
                                            replace hx389_0 := (HB.out.cell (World.block_lt_of_cell? w _ hx389_0)).trans hx389_0
                                            replace hx389_1 := (HB.out.cell (World.block_lt_of_cell? w _ hx389_1)).trans hx389_1
                                            replace p389 := eq_true p389
                                            replace q389 := eq_true q389
                                            try go_wp2_with (first | ((with_reducible refine gate_dst (N := 8) rfl ?_); (try (refine gate_guard (by rfl) ?_; dsimp only)); refine box_event ?hg (N := 8) ?hd (cs := #[.int .i64 0, .int .i64 0]) (t := 34) ?hr ?_; (case hd => rfl); (case hg => rfl); (case hr => first | (go_simp; done) | (go_simp; rfl)); intro gb390 hg w38 hbox hb; have n0_ := Aside0.mk (below_step (by repeat (first | (with_reducible first | exact HB.out | apply below_alloc | apply pw_below_drewN | apply below_drew1) | exact HB.out)) hb); have n1_ := Aside0.mk (hbox); have n2_ := Aside0.mk ((by rw [hg]; exact (below_size (by repeat (first | (with_reducible first | exact HB.out | apply below_alloc | apply pw_below_drewN | apply below_drew1) | exact HB.out))) : w.heap.size ≤ gb390)); have n3_ := Aside0.mk ((by rw [hg]; exact (below_size (by repeat (first | (with_reducible first | exact HB.out | apply below_alloc | apply pw_below_drewN | apply below_drew1) | exact HB.out))) : w.heap.size ≤ gb390)); clear HB; have HB := n0_; have BK390 := n1_; have GW390 := n2_; have GE390 := n3_; clear n0_ n1_ n2_ n3_; clear hb hbox hg; have hcz39_0 : w38.cell? ⟨gb390, 0, none⟩ = some (.int .i64 0) := (blk_cell BK390.out 0).trans rfl; have hcz39_1 : w38.cell? ⟨gb390, 1, none⟩ = some (.int .i64 0) := (blk_cell BK390.out 1).trans rfl; have hfz39_0 := blk_frozen BK390.out 0; have hfz39_1 := blk_frozen BK390.out 1))
                                            have n0_ : Aside0 (((w38.setCell ⟨gb390, 0, none⟩ (.int .i64 ((rd_T34 l0 (ji10)).f0))).setCell ⟨gb390, 1, none⟩ (.int .i64 ((rd_T34 l0 (ji10)).f1))).heap[gb390]? = some (.cells #[.int .i64 ((rd_T34 l0 (ji10)).f0), .int .i64 ((rd_T34 l0 (ji10)).f1)] 34 (0, 0))) := ⟨by (with_reducible repeat (first | refine blk_drewN ?_ _ | refine blk_drew ?_ | refine blk_alloc ?_ _)); refine blk_put (cs := #[.int .i64 ((rd_T34 l0 (ji10)).f0), .int .i64 0]) ?_ 1 _ rfl; (with_reducible repeat (first | refine blk_drewN ?_ _ | refine blk_drew ?_ | refine blk_alloc ?_ _)); refine blk_put (cs := #[.int .i64 0, .int .i64 0]) ?_ 0 _ rfl; (with_reducible repeat (first | refine blk_drewN ?_ _ | refine blk_drew ?_ | refine blk_alloc ?_ _)); exact BK390.out⟩
                                            have n1_ : Aside0 (Below w.heap.size w ((w38.setCell ⟨gb390, 0, none⟩ (.int .i64 ((rd_T34 l0 (ji10)).f0))).setCell ⟨gb390, 1, none⟩ (.int .i64 ((rd_T34 l0 (ji10)).f1)))) := ⟨by repeat (first | (with_reducible first | exact HB.out | apply below_alloc | apply pw_below_drewN | apply below_drew1 | refine below_set ?_ GE390.out) | exact HB.out)⟩
                                            (try clear BK390)
                                            (try clear HB)
                                            generalize ((w38.setCell ⟨gb390, 0, none⟩ (.int .i64 ((rd_T34 l0 (ji10)).f0))).setCell ⟨gb390, 1, none⟩ (.int .i64 ((rd_T34 l0 (ji10)).f1))) = w40 at n0_ n1_ ⊢
                                            have BK390 := n0_
                                            have HB := n1_
                                            clear n0_ n1_
                                            have n0_ := Aside0.mk (blk_drew BK390.out)
                                            have n1_ := Aside0.mk (below_drew1 HB.out)
                                            clear BK390
                                            clear HB
                                            have BK390 := n0_
                                            have HB := n1_
                                            clear n0_ n1_
                                            refine start_ (n := 16) (S := fun w' => w'.cell? ⟨gb390, 0, none⟩ = some (.int .i64 ((rd_T34 l0 (ji10)).f0)) ∧ w'.cell? ⟨gb390, 1, none⟩ = some (.int .i64 ((rd_T34 l0 (ji10)).f1))) (ds := []) #[false, false, false, false, false, false, false, false, false, false, false, false, false, false, false, false] (by kernel_rfl) rfl rfl ⟨(blk_cell BK390.out 0).trans rfl, (blk_cell BK390.out 1).trans rfl⟩ (fun hHeld => ?_); refine with_tabW paymasterlaw05_BracketsSplit.tab7 paymasterlaw05_BracketsSplit.bits7 (fun HT_ HW_ => ?_)
                                            generalize w40.drew = w41 at BK390 HB hHeld ⊢
                                            refine pure_ (i := 1) (N := some 42) (v := ?_) (a' := ?_) #[false, true, false, false, false, false, false, false, false, false, false, false, false, false, false, false] rfl rfl (any_of HT_.out (by kernel_rfl)) (fun _ _ _ h => h) (Or.inl ⟨by rfl, ?_⟩) ?_ ?_
                                            rotate_left
                                            · intro w'
                                              go_simp
                                              with_reducible rfl
                                            rotate_left
                                            · simp only [Act.put, List.setIfInBounds_toArray, List.set_cons_zero, List.set_cons_succ, i64_w, i32_w]
                                              rfl
                                            refine pure_ (i := 3) (N := some 44) (v := ?_) (a' := ?_) #[false, true, false, true, false, false, false, false, false, false, false, false, false, false, false, false] rfl rfl (any_of HT_.out (by kernel_rfl)) (fun _ _ _ h => h) (Or.inl ⟨by rfl, ?_⟩) ?_ ?_
                                            rotate_left
                                            · intro w'
                                              go_simp
                                              with_reducible rfl
                                            rotate_left
                                            · simp only [Act.put, List.setIfInBounds_toArray, List.set_cons_zero, List.set_cons_succ, i64_w, i32_w]
                                              rfl
                                            refine pure_ (i := 6) (N := some 47) (v := ?_) (a' := ?_) #[false, true, false, true, false, false, true, false, false, false, false, false, false, false, false, false] rfl rfl (any_of HT_.out (by kernel_rfl)) (fun _ _ _ h => h) (Or.inl ⟨by rfl, ?_⟩) ?_ ?_
                                            rotate_left
                                            · intro w'
                                              go_simp
                                              with_reducible rfl
                                            rotate_left
                                            · simp only [Act.put, List.setIfInBounds_toArray, List.set_cons_zero, List.set_cons_succ, i64_w, i32_w]
                                              rfl
                                            refine pure_ (i := 7) (N := some 48) (v := ?_) (a' := ?_) #[false, true, false, true, false, false, true, true, false, false, false, false, false, false, false, false] rfl rfl (any_of HT_.out (by kernel_rfl)) (fun _ _ _ h => h) (Or.inl ⟨by rfl, ?_⟩) ?_ ?_
                                            rotate_left
                                            · intro w'
                                              go_simp
                                              with_reducible rfl
                                            rotate_left
                                            · simp only [Act.put, List.setIfInBounds_toArray, List.set_cons_zero, List.set_cons_succ, i64_w, i32_w]
                                              rfl
                                            refine pure_ (i := 8) (N := some 49) (v := ?_) (a' := ?_) #[false, true, false, true, false, false, true, true, true, false, false, false, false, false, false, false] rfl rfl (any_of HT_.out (by kernel_rfl)) (fun _ _ _ h => h) (Or.inl ⟨by rfl, ?_⟩) ?_ ?_
                                            rotate_left
                                            · intro w'
                                              go_simp
                                              with_reducible rfl
                                            rotate_left
                                            · simp only [Act.put, List.setIfInBounds_toArray, List.set_cons_zero, List.set_cons_succ, i64_w, i32_w]
                                              rfl
                                            refine pure_ (i := 10) (N := some 51) (v := ?_) (a' := ?_) #[false, true, false, true, false, false, true, true, true, false, true, false, false, false, false, false] rfl rfl (any_of HT_.out (by kernel_rfl)) (fun _ _ _ h => h) (Or.inl ⟨by rfl, ?_⟩) ?_ ?_
                                            rotate_left
                                            · intro w'
                                              go_simp
                                              with_reducible rfl
                                            rotate_left
                                            · simp only [Act.put, List.setIfInBounds_toArray, List.set_cons_zero, List.set_cons_succ, i64_w, i32_w]
                                              rfl
                                            refine take_ (i := 4) (N := some 45) (v := ?_) (a' := ?_) #[false, true, false, true, true, false, true, true, true, false, true, false, false, false, false, false] rfl rfl (take_ofW HT_.out HW_.out (by kernel_rfl)) (fun _ _ _ h => h) (Or.inl ⟨by rfl, ?_⟩) hHeld ?_ ?_
                                            rotate_left
                                            · rintro w' ⟨s0, s1⟩
                                              go_simp
                                              with_reducible rfl
                                            rotate_left
                                            · simp only [Act.put, List.setIfInBounds_toArray, List.set_cons_zero, List.set_cons_succ, i64_w, i32_w]
                                              rfl
                                            refine pure_ (i := 5) (N := some 46) (v := ?_) (a' := ?_) #[false, true, false, true, true, true, true, true, true, false, true, false, false, false, false, false] rfl rfl (any_of HT_.out (by kernel_rfl)) (fun _ _ _ h => h) (Or.inl ⟨by rfl, ?_⟩) ?_ ?_
                                            rotate_left
                                            · intro w'
                                              go_simp
                                              with_reducible rfl
                                            rotate_left
                                            · simp only [Act.put, List.setIfInBounds_toArray, List.set_cons_zero, List.set_cons_succ, i64_w, i32_w]
                                              rfl
                                            refine pure_ (i := 9) (N := some 50) (v := ?_) (a' := ?_) #[false, true, false, true, true, true, true, true, true, true, true, false, false, false, false, false] rfl rfl (any_of HT_.out (by kernel_rfl)) (fun _ _ _ h => h) (Or.inl ⟨by rfl, ?_⟩) ?_ ?_
                                            rotate_left
                                            · intro w'
                                              go_simp
                                              with_reducible rfl
                                            rotate_left
                                            · simp only [Act.put, List.setIfInBounds_toArray, List.set_cons_zero, List.set_cons_succ, i64_w, i32_w]
                                              rfl
                                            refine take_ (i := 11) (N := some 52) (v := ?_) (a' := ?_) #[false, true, false, true, true, true, true, true, true, true, true, true, false, false, false, false] rfl rfl (take_ofW HT_.out HW_.out (by kernel_rfl)) (fun _ _ _ h => h) (Or.inl ⟨by rfl, ?_⟩) hHeld ?_ ?_
                                            rotate_left
                                            · rintro w' ⟨s0, s1⟩
                                              go_simp
                                              with_reducible rfl
                                            rotate_left
                                            · simp only [Act.put, List.setIfInBounds_toArray, List.set_cons_zero, List.set_cons_succ, i64_w, i32_w]
                                              rfl
                                            refine pure_ (i := 12) (N := some 53) (v := ?_) (a' := ?_) #[false, true, false, true, true, true, true, true, true, true, true, true, true, false, false, false] rfl rfl (any_of HT_.out (by kernel_rfl)) (fun _ _ _ h => h) (Or.inl ⟨by rfl, ?_⟩) ?_ ?_
                                            rotate_left
                                            · intro w'
                                              go_simp
                                              with_reducible rfl
                                            rotate_left
                                            · simp only [Act.put, List.setIfInBounds_toArray, List.set_cons_zero, List.set_cons_succ, i64_w, i32_w]
                                              rfl
                                            refine join_ (σ := Value × Value × Value) 2 #[true, true, true, true, true, true, true, true, true, true, true, true, true, true, false, false] (fun s_ => [(41, s_.1), (43, s_.2.1), (54, s_.2.2)]) (fun s_ w' => (w'.cell? ⟨gb390, 0, none⟩ = some (.int .i64 ((rd_T34 l0 (ji10)).f0)) ∧ w'.cell? ⟨gb390, 1, none⟩ = some (.int .i64 ((rd_T34 l0 (ji10)).f1))) ∧ (Kd.R k34 34 w' w.heap.size (fun k_ => some k_ ≠ (s_.2.2 : Value).ownBlock ∧ k_ ≠ gb390) s_.2.1 y395) ∧ (Kd.R k34 34 w' w.heap.size (fun k_ => some k_ ≠ (s_.2.1 : Value).ownBlock ∧ k_ ≠ gb390) s_.2.2 y398) ∧ (w'.heap[gb390]? = some (.cells #[.int .i64 ((rd_T34 l0 (ji10)).f0), .int .i64 ((rd_T34 l0 (ji10)).f1)] 34 (0, 0))) ∧ (Below w.heap.size w w')) ?_ ?_
                                            rotate_left
                                            · intro hCont
                                              refine two_ (i := 0) (j := 13) (Ni := some 41) (Nj := some 54) #[true, true, false, true, true, true, true, true, true, true, true, true, true, false, false, false] #[false, true, false, true, true, true, true, true, true, true, true, true, true, true, false, false] rfl rfl rfl rfl (two_of HT_.out (by kernel_rfl)) (by decide) (by decide) (fun K hK => ?_) (fun K hK => ?_)
                                              · skip
                                                refine Kd.R_lit_step k34 _ 34 ?hg (N := 41) ?hd (xs := ([] : List (S34))) (inner := []) (ok := fun _ => True) (okp := fun _ => True) ?hr ?hp (fun _ hk => hk) trivial (Below.refl _ _) (Nat.le_refl _) (by simp) ?_; (case hd => rfl); (case hg => rfl); (case hr => first | (go_simp; done) | (go_simp; rfl)); (case hp => exact (Reps.none _ _))
                                                intro v393 w42 ho43 hb hg_ hnew_
                                                clear hg_ hnew_
                                                (first | rw [← Ny392.out] at ho43 | (simp only [Int.reduceToNat] at ho43; rw [← Ny392.out] at ho43))
                                                have n0_ := Aside0.mk (Kd.R_lower (Kd.R_newB ho43 (g := gb390) (o := .cells #[.int .i64 ((rd_T34 l0 (ji10)).f0), .int .i64 ((rd_T34 l0 (ji10)).f1)] 34 (0, 0)) (by (with_reducible repeat (first | refine blk_drewN ?_ _ | refine blk_drew ?_ | refine blk_alloc ?_ _)); exact BK390.out)) (below_size (by repeat (first | (with_reducible first | exact HB.out | apply below_alloc | apply pw_below_drewN | apply below_drew1 | refine below_set ?_ GE390.out) | exact HB.out))))
                                                have n1_ := Aside0.mk (blk_below (g := gb390) (o := .cells #[.int .i64 ((rd_T34 l0 (ji10)).f0), .int .i64 ((rd_T34 l0 (ji10)).f1)] 34 (0, 0)) (by (with_reducible repeat (first | refine blk_drewN ?_ _ | refine blk_drew ?_ | refine blk_alloc ?_ _)); exact BK390.out) hb)
                                                have n2_ := Aside0.mk (below_step (by repeat (first | (with_reducible first | exact HB.out | apply below_alloc | apply pw_below_drewN | apply below_drew1 | refine below_set ?_ GE390.out) | exact HB.out)) hb)
                                                clear BK390
                                                clear HB
                                                have HO394 := n0_
                                                have BK390 := n1_
                                                have HB := n2_
                                                clear n0_ n1_ n2_
                                                clear hb ho43
                                                refine hK.out _ _ ⟨(blk_cell BK390.out 0).trans rfl, (blk_cell BK390.out 1).trans rfl⟩ (fun hHeld => ?_)
                                                clear hK K
                                                refine norm_ (a' := ?_) ?_ ?_
                                                rotate_left
                                                · show Act.put _ (some 41) _ = _
                                                  simp only [Act.put, List.setIfInBounds_toArray, List.set_cons_zero, List.set_cons_succ, i64_w, i32_w]
                                                  rfl
                                                refine two_ (i := 2) (j := 13) (Ni := some 43) (Nj := some 54) #[true, true, true, true, true, true, true, true, true, true, true, true, true, false, false, false] #[true, true, false, true, true, true, true, true, true, true, true, true, true, true, false, false] rfl rfl rfl rfl (two_of HT_.out (by kernel_rfl)) (by decide) (by decide) (fun K hK => ?_) (fun K hK => ?_)
                                                · skip
                                                  refine Kd.R_append_rows_step k34 (w0 := w) w.heap.size (by rfl) (.tmp 41) (.tmp 42) 22 34 (.agg #[(.int .i64 0), (.int .i64 0)]) 16 rfl Try.underlying22 info34 rfl (by decide) (by omega) v393 y392 l0 _ _ _ (fun k_ => k_ ≠ gb390) (fun _ => False) rfl rfl ?aO ?aR (fun _ _ h => h) (fun _ h => h.elim) ?aF ?aB ?aS ?aL ?_
                                                  (case aR => repeat (first | exact (Kd.C_below HR0.out HB.out) | (with_reducible refine Kd.C_alloc ?_ _) | (with_reducible refine Kd.C_drewN ?_ _) | (with_reducible refine Kd.C_drew ?_)))
                                                  (case aB => exact (by repeat (first | (with_reducible first | exact HB.out | apply below_alloc | apply pw_below_drewN | apply below_drew1 | refine below_set ?_ GE390.out) | exact HB.out)))
                                                  (case aF => exact (fun k_ hk => Kd.freshB (g := gb390) (o := .cells #[.int .i64 ((rd_T34 l0 (ji10)).f0), .int .i64 ((rd_T34 l0 (ji10)).f1)] 34 (0, 0)) (by (with_reducible repeat (first | refine blk_drewN ?_ _ | refine blk_drew ?_ | refine blk_alloc ?_ _)); exact BK390.out) k_ hk))
                                                  (case aO => exact (by (with_reducible repeat (first | apply Kd.R_alloc | apply Kd.R_drewN | apply Kd.R_drew)); exact Kd.R_mono HO394.out (fun _ hk => hk.2)))
                                                  (case aS => exact (below_size (by repeat (first | (with_reducible first | exact HB.out | apply below_alloc | apply pw_below_drewN | apply below_drew1 | refine below_set ?_ GE390.out) | exact HB.out))))
                                                  (case aL => have := LMc18.out; omega)
                                                  intro v396 w44 ho hb hg hat
                                                  rw [← Ny395.out] at ho
                                                  have n0_ := Aside0.mk (blk_grown (g := gb390) (o := .cells #[.int .i64 ((rd_T34 l0 (ji10)).f0), .int .i64 ((rd_T34 l0 (ji10)).f1)] 34 (0, 0)) (by (with_reducible repeat (first | refine blk_drewN ?_ _ | refine blk_drew ?_ | refine blk_alloc ?_ _)); exact BK390.out) hg (Kd.R_away HO394.out (fun _ hk => hk.2)))
                                                  have n1_ := Aside0.mk (hb)
                                                  have n2_ := Aside0.mk (ho)
                                                  clear BK390
                                                  clear HB
                                                  clear HO394
                                                  have BK390 := n0_
                                                  have HB := n1_
                                                  have HO397 := n2_
                                                  clear n0_ n1_ n2_
                                                  clear ho hb hg hat
                                                  refine hK.out _ _ ⟨(blk_cell BK390.out 0).trans rfl, (blk_cell BK390.out 1).trans rfl⟩ (fun hHeld => ?_)
                                                  clear hK K
                                                  refine norm_ (a' := ?_) ?_ ?_
                                                  rotate_left
                                                  · show Act.put _ (some 43) _ = _
                                                    simp only [Act.put, List.setIfInBounds_toArray, List.set_cons_zero, List.set_cons_succ, i64_w, i32_w]
                                                    rfl
                                                  refine one_ (i := 13) (N := some 54) #[true, true, true, true, true, true, true, true, true, true, true, true, true, true, false, false] rfl rfl (one_of HT_.out (by kernel_rfl)) (by decide) (fun K hK => ?_)
                                                  refine Kd.R_lit_step k34 _ 34 ?hg (N := 54) ?hd (xs := ([(⟨wrap64 ((wrap64 (((rd_T34 l0 (ji10)).f0) + 1)) + (wrap64 (a2 / 16))), (rd_T34 l0 (ji10)).f1⟩ : S34)] : List (S34))) (inner := [.int .i64 (wrap64 ((wrap64 (((rd_T34 l0 (ji10)).f0) + 1)) + (wrap64 (a2 / 16)))), .int .i64 ((rd_T34 l0 (ji10)).f1)]) (ok := fun _ => True) (okp := fun _ => True) ?hr ?hp (fun _ hk => hk) trivial (Below.refl _ _) (Nat.le_refl _) (by simp) ?_; (case hd => rfl); (case hg => rfl); (case hr => first | (go_simp; done) | (go_simp; rfl)); (case hp => exact (Reps.c2 (show Kd.M k34 _ _ _ (⟨wrap64 ((wrap64 (((rd_T34 l0 (ji10)).f0) + 1)) + (wrap64 (a2 / 16))), (rd_T34 l0 (ji10)).f1⟩ : S34) [.int .i64 (wrap64 ((wrap64 (((rd_T34 l0 (ji10)).f0) + 1)) + (wrap64 (a2 / 16)))), .int .i64 ((rd_T34 l0 (ji10)).f1)] from (k34_mkM _ _ _ (⟨wrap64 ((wrap64 (((rd_T34 l0 (ji10)).f0) + 1)) + (wrap64 (a2 / 16))), (rd_T34 l0 (ji10)).f1⟩ : S34) )) (Reps.none _ _)))
                                                  intro v399 w45 ho46 hb hg_ hnew_
                                                  clear hg_ hnew_
                                                  (first | rw [← Ny398.out] at ho46 | (simp only [Int.reduceToNat] at ho46; rw [← Ny398.out] at ho46))
                                                  have n0_ := Aside0.mk (Kd.R_elder' (by (with_reducible repeat (first | apply Kd.R_alloc | apply Kd.R_drewN | apply Kd.R_drew)); exact HO397.out) (Kd.R_base ho46) hb)
                                                  have n1_ := Aside0.mk (Kd.R_lower (Kd.R_newB (Kd.R_new' ho46 (Kd.R_lt (by (with_reducible repeat (first | apply Kd.R_alloc | apply Kd.R_drewN | apply Kd.R_drew)); exact HO397.out))) (g := gb390) (o := .cells #[.int .i64 ((rd_T34 l0 (ji10)).f0), .int .i64 ((rd_T34 l0 (ji10)).f1)] 34 (0, 0)) (by (with_reducible repeat (first | refine blk_drewN ?_ _ | refine blk_drew ?_ | refine blk_alloc ?_ _)); exact BK390.out)) (below_size (by repeat (first | (with_reducible first | exact HB.out | apply below_alloc | apply pw_below_drewN | apply below_drew1 | refine below_set ?_ GE390.out) | exact HB.out))))
                                                  have n2_ := Aside0.mk (blk_below (g := gb390) (o := .cells #[.int .i64 ((rd_T34 l0 (ji10)).f0), .int .i64 ((rd_T34 l0 (ji10)).f1)] 34 (0, 0)) (by (with_reducible repeat (first | refine blk_drewN ?_ _ | refine blk_drew ?_ | refine blk_alloc ?_ _)); exact BK390.out) hb)
                                                  have n3_ := Aside0.mk (below_step (by repeat (first | (with_reducible first | exact HB.out | apply below_alloc | apply pw_below_drewN | apply below_drew1 | refine below_set ?_ GE390.out) | exact HB.out)) hb)
                                                  clear HO397
                                                  clear BK390
                                                  clear HB
                                                  have HO397 := n0_
                                                  have HO400 := n1_
                                                  have BK390 := n2_
                                                  have HB := n3_
                                                  clear n0_ n1_ n2_ n3_
                                                  clear hb ho46
                                                  refine hK.out _ _ ⟨(blk_cell BK390.out 0).trans rfl, (blk_cell BK390.out 1).trans rfl⟩ (fun hHeld => ?_)
                                                  clear hK K
                                                  refine norm_ (a' := ?_) ?_ ?_
                                                  rotate_left
                                                  · show Act.put _ (some 54) _ = _
                                                    simp only [Act.put, List.setIfInBounds_toArray, List.set_cons_zero, List.set_cons_succ, i64_w, i32_w]
                                                    rfl
                                                  exact norm_ (by simp only [putAll, Act.put, List.setIfInBounds_toArray, List.set_cons_zero, List.set_cons_succ]) (hCont (v393, v396, v399) _ ⟨hHeld, (by (with_reducible repeat (first | apply Kd.R_alloc | apply Kd.R_drewN | apply Kd.R_drew)); exact Kd.R_mono HO397.out (fun _ hk => ⟨hk.2, hk.1⟩)), (by (with_reducible repeat (first | apply Kd.R_alloc | apply Kd.R_drewN | apply Kd.R_drew)); exact Kd.R_mono HO400.out (fun _ hk => ⟨hk.1.2, hk.2⟩)), (by (with_reducible repeat (first | refine blk_drewN ?_ _ | refine blk_drew ?_ | refine blk_alloc ?_ _)); exact BK390.out), (by repeat (first | (with_reducible first | exact HB.out | apply below_alloc | apply pw_below_drewN | apply below_drew1 | refine below_set ?_ GE390.out) | exact HB.out))⟩)
                                                · skip
                                                  refine Kd.R_lit_step k34 _ 34 ?hg (N := 54) ?hd (xs := ([(⟨wrap64 ((wrap64 (((rd_T34 l0 (ji10)).f0) + 1)) + (wrap64 (a2 / 16))), (rd_T34 l0 (ji10)).f1⟩ : S34)] : List (S34))) (inner := [.int .i64 (wrap64 ((wrap64 (((rd_T34 l0 (ji10)).f0) + 1)) + (wrap64 (a2 / 16)))), .int .i64 ((rd_T34 l0 (ji10)).f1)]) (ok := fun _ => True) (okp := fun _ => True) ?hr ?hp (fun _ hk => hk) trivial (Below.refl _ _) (Nat.le_refl _) (by simp) ?_; (case hd => rfl); (case hg => rfl); (case hr => first | (go_simp; done) | (go_simp; rfl)); (case hp => exact (Reps.c2 (show Kd.M k34 _ _ _ (⟨wrap64 ((wrap64 (((rd_T34 l0 (ji10)).f0) + 1)) + (wrap64 (a2 / 16))), (rd_T34 l0 (ji10)).f1⟩ : S34) [.int .i64 (wrap64 ((wrap64 (((rd_T34 l0 (ji10)).f0) + 1)) + (wrap64 (a2 / 16)))), .int .i64 ((rd_T34 l0 (ji10)).f1)] from (k34_mkM _ _ _ (⟨wrap64 ((wrap64 (((rd_T34 l0 (ji10)).f0) + 1)) + (wrap64 (a2 / 16))), (rd_T34 l0 (ji10)).f1⟩ : S34) )) (Reps.none _ _)))
                                                  intro v399 w44 ho45 hb hg_ hnew_
                                                  clear hg_ hnew_
                                                  (first | rw [← Ny398.out] at ho45 | (simp only [Int.reduceToNat] at ho45; rw [← Ny398.out] at ho45))
                                                  have n0_ := Aside0.mk (Kd.R_elder' (by (with_reducible repeat (first | apply Kd.R_alloc | apply Kd.R_drewN | apply Kd.R_drew)); exact HO394.out) (Kd.R_base ho45) hb)
                                                  have n1_ := Aside0.mk (Kd.R_lower (Kd.R_newB (Kd.R_new' ho45 (Kd.R_lt (by (with_reducible repeat (first | apply Kd.R_alloc | apply Kd.R_drewN | apply Kd.R_drew)); exact HO394.out))) (g := gb390) (o := .cells #[.int .i64 ((rd_T34 l0 (ji10)).f0), .int .i64 ((rd_T34 l0 (ji10)).f1)] 34 (0, 0)) (by (with_reducible repeat (first | refine blk_drewN ?_ _ | refine blk_drew ?_ | refine blk_alloc ?_ _)); exact BK390.out)) (below_size (by repeat (first | (with_reducible first | exact HB.out | apply below_alloc | apply pw_below_drewN | apply below_drew1 | refine below_set ?_ GE390.out) | exact HB.out))))
                                                  have n2_ := Aside0.mk (blk_below (g := gb390) (o := .cells #[.int .i64 ((rd_T34 l0 (ji10)).f0), .int .i64 ((rd_T34 l0 (ji10)).f1)] 34 (0, 0)) (by (with_reducible repeat (first | refine blk_drewN ?_ _ | refine blk_drew ?_ | refine blk_alloc ?_ _)); exact BK390.out) hb)
                                                  have n3_ := Aside0.mk (below_step (by repeat (first | (with_reducible first | exact HB.out | apply below_alloc | apply pw_below_drewN | apply below_drew1 | refine below_set ?_ GE390.out) | exact HB.out)) hb)
                                                  clear HO394
                                                  clear BK390
                                                  clear HB
                                                  have HO394 := n0_
                                                  have HO400 := n1_
                                                  have BK390 := n2_
                                                  have HB := n3_
                                                  clear n0_ n1_ n2_ n3_
                                                  clear hb ho45
                                                  refine hK.out _ _ ⟨(blk_cell BK390.out 0).trans rfl, (blk_cell BK390.out 1).trans rfl⟩ (fun hHeld => ?_)
                                                  clear hK K
                                                  refine norm_ (a' := ?_) ?_ ?_
                                                  rotate_left
                                                  · show Act.put _ (some 54) _ = _
                                                    simp only [Act.put, List.setIfInBounds_toArray, List.set_cons_zero, List.set_cons_succ, i64_w, i32_w]
                                                    rfl
                                                  refine one_ (i := 2) (N := some 43) #[true, true, true, true, true, true, true, true, true, true, true, true, true, true, false, false] rfl rfl (one_of HT_.out (by kernel_rfl)) (by decide) (fun K hK => ?_)
                                                  refine Kd.R_append_rows_step k34 (w0 := w) w.heap.size (by rfl) (.tmp 41) (.tmp 42) 22 34 (.agg #[(.int .i64 0), (.int .i64 0)]) 16 rfl Try.underlying22 info34 rfl (by decide) (by omega) v393 y392 l0 _ _ _ (fun k_ => some k_ ≠ (v399 : Value).ownBlock ∧ k_ ≠ gb390) (fun _ => False) rfl rfl ?aO ?aR (fun _ _ h => h) (fun _ h => h.elim) ?aF ?aB ?aS ?aL ?_
                                                  (case aR => repeat (first | exact (Kd.C_below HR0.out HB.out) | (with_reducible refine Kd.C_alloc ?_ _) | (with_reducible refine Kd.C_drewN ?_ _) | (with_reducible refine Kd.C_drew ?_)))
                                                  (case aB => exact (by repeat (first | (with_reducible first | exact HB.out | apply below_alloc | apply pw_below_drewN | apply below_drew1 | refine below_set ?_ GE390.out) | exact HB.out)))
                                                  (case aF => exact (fun k_ hk => ⟨Kd.fresh' (Kd.R_lt (by (with_reducible repeat (first | apply Kd.R_alloc | apply Kd.R_drewN | apply Kd.R_drew)); exact HO400.out)) k_ hk, Kd.freshB (g := gb390) (o := .cells #[.int .i64 ((rd_T34 l0 (ji10)).f0), .int .i64 ((rd_T34 l0 (ji10)).f1)] 34 (0, 0)) (by (with_reducible repeat (first | refine blk_drewN ?_ _ | refine blk_drew ?_ | refine blk_alloc ?_ _)); exact BK390.out) k_ hk⟩))
                                                  (case aO => exact (by (with_reducible repeat (first | apply Kd.R_alloc | apply Kd.R_drewN | apply Kd.R_drew)); exact Kd.R_mono HO394.out (fun _ hk => ⟨hk.2, hk.1.2⟩)))
                                                  (case aS => exact (below_size (by repeat (first | (with_reducible first | exact HB.out | apply below_alloc | apply pw_below_drewN | apply below_drew1 | refine below_set ?_ GE390.out) | exact HB.out))))
                                                  (case aL => have := LMc18.out; omega)
                                                  intro v396 w46 ho hb hg hat
                                                  rw [← Ny395.out] at ho
                                                  have n0_ := Aside0.mk (blk_grown (g := gb390) (o := .cells #[.int .i64 ((rd_T34 l0 (ji10)).f0), .int .i64 ((rd_T34 l0 (ji10)).f1)] 34 (0, 0)) (by (with_reducible repeat (first | refine blk_drewN ?_ _ | refine blk_drew ?_ | refine blk_alloc ?_ _)); exact BK390.out) hg (Kd.R_away HO394.out (fun _ hk => hk.1.2)))
                                                  have n1_ := Aside0.mk (Kd.R_after (ok := (fun k_ => k_ ≠ gb390)) (by (with_reducible repeat (first | apply Kd.R_alloc | apply Kd.R_drewN | apply Kd.R_drew)); exact Kd.R_mono HO400.out (fun _ hk => ⟨hk.2, hk.1.2⟩)) hg hat)
                                                  have n2_ := Aside0.mk (hb)
                                                  have n3_ := Aside0.mk (ho)
                                                  clear BK390
                                                  clear HO400
                                                  clear HB
                                                  clear HO394
                                                  have BK390 := n0_
                                                  have HO400 := n1_
                                                  have HB := n2_
                                                  have HO397 := n3_
                                                  clear n0_ n1_ n2_ n3_
                                                  clear ho hb hg hat
                                                  refine hK.out _ _ ⟨(blk_cell BK390.out 0).trans rfl, (blk_cell BK390.out 1).trans rfl⟩ (fun hHeld => ?_)
                                                  clear hK K
                                                  refine norm_ (a' := ?_) ?_ ?_
                                                  rotate_left
                                                  · show Act.put _ (some 43) _ = _
                                                    simp only [Act.put, List.setIfInBounds_toArray, List.set_cons_zero, List.set_cons_succ, i64_w, i32_w]
                                                    rfl
                                                  exact norm_ (by simp only [putAll, Act.put, List.setIfInBounds_toArray, List.set_cons_zero, List.set_cons_succ]) (hCont (v393, v396, v399) _ ⟨hHeld, (by (with_reducible repeat (first | apply Kd.R_alloc | apply Kd.R_drewN | apply Kd.R_drew)); exact HO397.out), (by (with_reducible repeat (first | apply Kd.R_alloc | apply Kd.R_drewN | apply Kd.R_drew)); exact Kd.R_mono HO400.out (fun _ hk => ⟨hk.2, hk.1⟩)), (by (with_reducible repeat (first | refine blk_drewN ?_ _ | refine blk_drew ?_ | refine blk_alloc ?_ _)); exact BK390.out), (by repeat (first | (with_reducible first | exact HB.out | apply below_alloc | apply pw_below_drewN | apply below_drew1 | refine below_set ?_ GE390.out) | exact HB.out))⟩)
                                              · skip
                                                refine Kd.R_lit_step k34 _ 34 ?hg (N := 54) ?hd (xs := ([(⟨wrap64 ((wrap64 (((rd_T34 l0 (ji10)).f0) + 1)) + (wrap64 (a2 / 16))), (rd_T34 l0 (ji10)).f1⟩ : S34)] : List (S34))) (inner := [.int .i64 (wrap64 ((wrap64 (((rd_T34 l0 (ji10)).f0) + 1)) + (wrap64 (a2 / 16)))), .int .i64 ((rd_T34 l0 (ji10)).f1)]) (ok := fun _ => True) (okp := fun _ => True) ?hr ?hp (fun _ hk => hk) trivial (Below.refl _ _) (Nat.le_refl _) (by simp) ?_; (case hd => rfl); (case hg => rfl); (case hr => first | (go_simp; done) | (go_simp; rfl)); (case hp => exact (Reps.c2 (show Kd.M k34 _ _ _ (⟨wrap64 ((wrap64 (((rd_T34 l0 (ji10)).f0) + 1)) + (wrap64 (a2 / 16))), (rd_T34 l0 (ji10)).f1⟩ : S34) [.int .i64 (wrap64 ((wrap64 (((rd_T34 l0 (ji10)).f0) + 1)) + (wrap64 (a2 / 16)))), .int .i64 ((rd_T34 l0 (ji10)).f1)] from (k34_mkM _ _ _ (⟨wrap64 ((wrap64 (((rd_T34 l0 (ji10)).f0) + 1)) + (wrap64 (a2 / 16))), (rd_T34 l0 (ji10)).f1⟩ : S34) )) (Reps.none _ _)))
                                                intro v399 w42 ho43 hb hg_ hnew_
                                                clear hg_ hnew_
                                                (first | rw [← Ny398.out] at ho43 | (simp only [Int.reduceToNat] at ho43; rw [← Ny398.out] at ho43))
                                                have n0_ := Aside0.mk (Kd.R_lower (Kd.R_newB ho43 (g := gb390) (o := .cells #[.int .i64 ((rd_T34 l0 (ji10)).f0), .int .i64 ((rd_T34 l0 (ji10)).f1)] 34 (0, 0)) (by (with_reducible repeat (first | refine blk_drewN ?_ _ | refine blk_drew ?_ | refine blk_alloc ?_ _)); exact BK390.out)) (below_size (by repeat (first | (with_reducible first | exact HB.out | apply below_alloc | apply pw_below_drewN | apply below_drew1 | refine below_set ?_ GE390.out) | exact HB.out))))
                                                have n1_ := Aside0.mk (blk_below (g := gb390) (o := .cells #[.int .i64 ((rd_T34 l0 (ji10)).f0), .int .i64 ((rd_T34 l0 (ji10)).f1)] 34 (0, 0)) (by (with_reducible repeat (first | refine blk_drewN ?_ _ | refine blk_drew ?_ | refine blk_alloc ?_ _)); exact BK390.out) hb)
                                                have n2_ := Aside0.mk (below_step (by repeat (first | (with_reducible first | exact HB.out | apply below_alloc | apply pw_below_drewN | apply below_drew1 | refine below_set ?_ GE390.out) | exact HB.out)) hb)
                                                clear BK390
                                                clear HB
                                                have HO400 := n0_
                                                have BK390 := n1_
                                                have HB := n2_
                                                clear n0_ n1_ n2_
                                                clear hb ho43
                                                refine hK.out _ _ ⟨(blk_cell BK390.out 0).trans rfl, (blk_cell BK390.out 1).trans rfl⟩ (fun hHeld => ?_)
                                                clear hK K
                                                refine norm_ (a' := ?_) ?_ ?_
                                                rotate_left
                                                · show Act.put _ (some 54) _ = _
                                                  simp only [Act.put, List.setIfInBounds_toArray, List.set_cons_zero, List.set_cons_succ, i64_w, i32_w]
                                                  rfl
                                                refine one_ (i := 0) (N := some 41) #[true, true, false, true, true, true, true, true, true, true, true, true, true, true, false, false] rfl rfl (one_of HT_.out (by kernel_rfl)) (by decide) (fun K hK => ?_)
                                                refine Kd.R_lit_step k34 _ 34 ?hg (N := 41) ?hd (xs := ([] : List (S34))) (inner := []) (ok := fun _ => True) (okp := fun _ => True) ?hr ?hp (fun _ hk => hk) trivial (Below.refl _ _) (Nat.le_refl _) (by simp) ?_; (case hd => rfl); (case hg => rfl); (case hr => first | (go_simp; done) | (go_simp; rfl)); (case hp => exact (Reps.none _ _))
                                                intro v393 w44 ho45 hb hg_ hnew_
                                                clear hg_ hnew_
                                                (first | rw [← Ny392.out] at ho45 | (simp only [Int.reduceToNat] at ho45; rw [← Ny392.out] at ho45))
                                                have n0_ := Aside0.mk (Kd.R_elder' (by (with_reducible repeat (first | apply Kd.R_alloc | apply Kd.R_drewN | apply Kd.R_drew)); exact HO400.out) (Kd.R_base ho45) hb)
                                                have n1_ := Aside0.mk (Kd.R_lower (Kd.R_newB (Kd.R_new' ho45 (Kd.R_lt (by (with_reducible repeat (first | apply Kd.R_alloc | apply Kd.R_drewN | apply Kd.R_drew)); exact HO400.out))) (g := gb390) (o := .cells #[.int .i64 ((rd_T34 l0 (ji10)).f0), .int .i64 ((rd_T34 l0 (ji10)).f1)] 34 (0, 0)) (by (with_reducible repeat (first | refine blk_drewN ?_ _ | refine blk_drew ?_ | refine blk_alloc ?_ _)); exact BK390.out)) (below_size (by repeat (first | (with_reducible first | exact HB.out | apply below_alloc | apply pw_below_drewN | apply below_drew1 | refine below_set ?_ GE390.out) | exact HB.out))))
                                                have n2_ := Aside0.mk (blk_below (g := gb390) (o := .cells #[.int .i64 ((rd_T34 l0 (ji10)).f0), .int .i64 ((rd_T34 l0 (ji10)).f1)] 34 (0, 0)) (by (with_reducible repeat (first | refine blk_drewN ?_ _ | refine blk_drew ?_ | refine blk_alloc ?_ _)); exact BK390.out) hb)
                                                have n3_ := Aside0.mk (below_step (by repeat (first | (with_reducible first | exact HB.out | apply below_alloc | apply pw_below_drewN | apply below_drew1 | refine below_set ?_ GE390.out) | exact HB.out)) hb)
                                                clear HO400
                                                clear BK390
                                                clear HB
                                                have HO400 := n0_
                                                have HO394 := n1_
                                                have BK390 := n2_
                                                have HB := n3_
                                                clear n0_ n1_ n2_ n3_
                                                clear hb ho45
                                                refine hK.out _ _ ⟨(blk_cell BK390.out 0).trans rfl, (blk_cell BK390.out 1).trans rfl⟩ (fun hHeld => ?_)
                                                clear hK K
                                                refine norm_ (a' := ?_) ?_ ?_
                                                rotate_left
                                                · show Act.put _ (some 41) _ = _
                                                  simp only [Act.put, List.setIfInBounds_toArray, List.set_cons_zero, List.set_cons_succ, i64_w, i32_w]
                                                  rfl
                                                refine one_ (i := 2) (N := some 43) #[true, true, true, true, true, true, true, true, true, true, true, true, true, true, false, false] rfl rfl (one_of HT_.out (by kernel_rfl)) (by decide) (fun K hK => ?_)
                                                refine Kd.R_append_rows_step k34 (w0 := w) w.heap.size (by rfl) (.tmp 41) (.tmp 42) 22 34 (.agg #[(.int .i64 0), (.int .i64 0)]) 16 rfl Try.underlying22 info34 rfl (by decide) (by omega) v393 y392 l0 _ _ _ (fun k_ => some k_ ≠ (v399 : Value).ownBlock ∧ k_ ≠ gb390) (fun _ => False) rfl rfl ?aO ?aR (fun _ _ h => h) (fun _ h => h.elim) ?aF ?aB ?aS ?aL ?_
                                                (case aR => repeat (first | exact (Kd.C_below HR0.out HB.out) | (with_reducible refine Kd.C_alloc ?_ _) | (with_reducible refine Kd.C_drewN ?_ _) | (with_reducible refine Kd.C_drew ?_)))
                                                (case aB => exact (by repeat (first | (with_reducible first | exact HB.out | apply below_alloc | apply pw_below_drewN | apply below_drew1 | refine below_set ?_ GE390.out) | exact HB.out)))
                                                (case aF => exact (fun k_ hk => ⟨Kd.fresh' (Kd.R_lt (by (with_reducible repeat (first | apply Kd.R_alloc | apply Kd.R_drewN | apply Kd.R_drew)); exact HO400.out)) k_ hk, Kd.freshB (g := gb390) (o := .cells #[.int .i64 ((rd_T34 l0 (ji10)).f0), .int .i64 ((rd_T34 l0 (ji10)).f1)] 34 (0, 0)) (by (with_reducible repeat (first | refine blk_drewN ?_ _ | refine blk_drew ?_ | refine blk_alloc ?_ _)); exact BK390.out) k_ hk⟩))
                                                (case aO => exact (by (with_reducible repeat (first | apply Kd.R_alloc | apply Kd.R_drewN | apply Kd.R_drew)); exact Kd.R_mono HO394.out (fun _ hk => ⟨hk.1.2, hk.2⟩)))
                                                (case aS => exact (below_size (by repeat (first | (with_reducible first | exact HB.out | apply below_alloc | apply pw_below_drewN | apply below_drew1 | refine below_set ?_ GE390.out) | exact HB.out))))
                                                (case aL => have := LMc18.out; omega)
                                                intro v396 w46 ho hb hg hat
                                                rw [← Ny395.out] at ho
                                                have n0_ := Aside0.mk (blk_grown (g := gb390) (o := .cells #[.int .i64 ((rd_T34 l0 (ji10)).f0), .int .i64 ((rd_T34 l0 (ji10)).f1)] 34 (0, 0)) (by (with_reducible repeat (first | refine blk_drewN ?_ _ | refine blk_drew ?_ | refine blk_alloc ?_ _)); exact BK390.out) hg (Kd.R_away HO394.out (fun _ hk => hk.2)))
                                                have n1_ := Aside0.mk (Kd.R_after (ok := (fun k_ => k_ ≠ gb390)) (by (with_reducible repeat (first | apply Kd.R_alloc | apply Kd.R_drewN | apply Kd.R_drew)); exact Kd.R_mono HO400.out (fun _ hk => ⟨hk.1.2, hk.2⟩)) hg hat)
                                                have n2_ := Aside0.mk (hb)
                                                have n3_ := Aside0.mk (ho)
                                                clear BK390
                                                clear HO400
                                                clear HB
                                                clear HO394
                                                have BK390 := n0_
                                                have HO400 := n1_
                                                have HB := n2_
                                                have HO397 := n3_
                                                clear n0_ n1_ n2_ n3_
                                                clear ho hb hg hat
                                                refine hK.out _ _ ⟨(blk_cell BK390.out 0).trans rfl, (blk_cell BK390.out 1).trans rfl⟩ (fun hHeld => ?_)
                                                clear hK K
                                                refine norm_ (a' := ?_) ?_ ?_
                                                rotate_left
                                                · show Act.put _ (some 43) _ = _
                                                  simp only [Act.put, List.setIfInBounds_toArray, List.set_cons_zero, List.set_cons_succ, i64_w, i32_w]
                                                  rfl
                                                exact norm_ (by simp only [putAll, Act.put, List.setIfInBounds_toArray, List.set_cons_zero, List.set_cons_succ]) (hCont (v393, v396, v399) _ ⟨hHeld, (by (with_reducible repeat (first | apply Kd.R_alloc | apply Kd.R_drewN | apply Kd.R_drew)); exact HO397.out), (by (with_reducible repeat (first | apply Kd.R_alloc | apply Kd.R_drewN | apply Kd.R_drew)); exact Kd.R_mono HO400.out (fun _ hk => ⟨hk.2, hk.1⟩)), (by (with_reducible repeat (first | refine blk_drewN ?_ _ | refine blk_drew ?_ | refine blk_alloc ?_ _)); exact BK390.out), (by repeat (first | (with_reducible first | exact HB.out | apply below_alloc | apply pw_below_drewN | apply below_drew1 | refine below_set ?_ GE390.out) | exact HB.out))⟩)
                                            rintro ⟨v393, v396, v399⟩ w47 ⟨hS_, h0_, h1_, h2_, h3_⟩
                                            have n0_ : Aside0 (Kd.R k34 34 w47 w.heap.size (fun k_ => some k_ ≠ (v399 : Value).ownBlock ∧ k_ ≠ gb390) v396 y395) := ⟨h0_⟩
                                            have n1_ : Aside0 (Kd.R k34 34 w47 w.heap.size (fun k_ => some k_ ≠ (v396 : Value).ownBlock ∧ k_ ≠ gb390) v399 y398) := ⟨h1_⟩
                                            have n2_ : Aside0 (w47.heap[gb390]? = some (.cells #[.int .i64 ((rd_T34 l0 (ji10)).f0), .int .i64 ((rd_T34 l0 (ji10)).f1)] 34 (0, 0))) := ⟨h2_⟩
                                            have n3_ : Aside0 (Below w.heap.size w w47) := ⟨h3_⟩
                                            clear BK390
                                            clear HB
                                            clear h0_ h1_ h2_ h3_
                                            have HO397 := n0_
                                            have HO400 := n1_
                                            have BK390 := n2_
                                            have HB := n3_
                                            clear n0_ n1_ n2_ n3_
                                            have hHeld : w47.cell? ⟨gb390, 0, none⟩ = some (.int .i64 ((rd_T34 l0 (ji10)).f0)) ∧ w47.cell? ⟨gb390, 1, none⟩ = some (.int .i64 ((rd_T34 l0 (ji10)).f1)) := hS_
                                            obtain ⟨Ao49, co49, eo49⟩ := Kd.R_slice HO400.out
                                            (first | subst eo49 | (injection eo49 with f1_ f2_ f3_; have f4_ := f1_.symm; have f5_ := f3_.symm; clear f1_ f2_ f3_; subst f4_; subst f5_))
                                            refine norm_ (a' := ?_) ?_ ?_
                                            rotate_left
                                            · simp only [putAll, Act.put, List.setIfInBounds_toArray, List.set_cons_zero, List.set_cons_succ]
                                              rfl
                                            refine one_ (i := 14) (N := some 55) #[true, true, true, true, true, true, true, true, true, true, true, true, true, true, true, false] rfl rfl (one_of HT_.out (by kernel_rfl)) (by decide) (fun K hK => ?_)
                                            refine Kd.R_append_rows_step k34 (w0 := w) w.heap.size (by rfl) (.tmp 43) (.tmp 54) 22 34 (.agg #[(.int .i64 0), (.int .i64 0)]) 16 rfl Try.underlying22 info34 rfl (by decide) (by omega) v396 y395 y398 _ _ _ (fun k_ => some k_ ≠ (.slice Ao49 y398.length co49 : Value).ownBlock ∧ k_ ≠ gb390) (fun _ => False) rfl rfl ?aO ?aR (fun _ _ h => h) (fun _ h => h.elim) ?aF ?aB ?aS ?aL ?_
                                            (case aR => repeat (first | exact (Kd.R_reads' HO400.out).2.2 | (with_reducible refine Kd.C_alloc ?_ _) | (with_reducible refine Kd.C_drewN ?_ _) | (with_reducible refine Kd.C_drew ?_)))
                                            (case aB => exact (by repeat (first | (with_reducible first | exact HB.out | apply below_alloc | apply pw_below_drewN | apply below_drew1 | refine below_set ?_ GE390.out) | exact HB.out)))
                                            (case aF => exact (fun k_ hk => ⟨Kd.fresh' (Kd.R_lt (by (with_reducible repeat (first | apply Kd.R_alloc | apply Kd.R_drewN | apply Kd.R_drew)); exact HO400.out)) k_ hk, Kd.freshB (g := gb390) (o := .cells #[.int .i64 ((rd_T34 l0 (ji10)).f0), .int .i64 ((rd_T34 l0 (ji10)).f1)] 34 (0, 0)) (by (with_reducible repeat (first | refine blk_drewN ?_ _ | refine blk_drew ?_ | refine blk_alloc ?_ _)); exact BK390.out) k_ hk⟩))
                                            (case aO => exact (by (with_reducible repeat (first | apply Kd.R_alloc | apply Kd.R_drewN | apply Kd.R_drew)); exact HO397.out))
                                            (case aS => exact (below_size (by repeat (first | (with_reducible first | exact HB.out | apply below_alloc | apply pw_below_drewN | apply below_drew1 | refine below_set ?_ GE390.out) | exact HB.out))))
                                            (case aL => have := LMc19.out; omega)
                                            intro v402 w48 ho hb hg hat
                                            rw [← Ny401.out] at ho
                                            have n0_ := Aside0.mk (blk_grown (g := gb390) (o := .cells #[.int .i64 ((rd_T34 l0 (ji10)).f0), .int .i64 ((rd_T34 l0 (ji10)).f1)] 34 (0, 0)) (by (with_reducible repeat (first | refine blk_drewN ?_ _ | refine blk_drew ?_ | refine blk_alloc ?_ _)); exact BK390.out) hg (Kd.R_away HO397.out (fun _ hk => hk.2)))
                                            have n1_ := Aside0.mk (Kd.R_after (ok := (fun k_ => k_ ≠ gb390)) (by (with_reducible repeat (first | apply Kd.R_alloc | apply Kd.R_drewN | apply Kd.R_drew)); exact Kd.R_mono HO400.out (fun _ hk => ⟨hk.2, hk.1⟩)) hg hat)
                                            have n2_ := Aside0.mk (hb)
                                            have n3_ := Aside0.mk (ho)
                                            clear BK390
                                            clear HO400
                                            clear HB
                                            clear HO397
                                            have BK390 := n0_
                                            have HO400 := n1_
                                            have HB := n2_
                                            have HO403 := n3_
                                            clear n0_ n1_ n2_ n3_
                                            clear ho hb hg hat
                                            refine hK.out _ _ ⟨(blk_cell BK390.out 0).trans rfl, (blk_cell BK390.out 1).trans rfl⟩ (fun hHeld => ?_)
                                            clear hK K
                                            refine norm_ (a' := ?_) ?_ ?_
                                            rotate_left
                                            · show Act.put _ (some 55) _ = _
                                              simp only [Act.put, List.setIfInBounds_toArray, List.set_cons_zero, List.set_cons_succ, i64_w, i32_w]
                                              rfl
                                            refine pure_ (i := 15) (N := some 9) (v := ?_) (a' := ?_) #[true, true, true, true, true, true, true, true, true, true, true, true, true, true, true, true] rfl rfl (any_of HT_.out (by kernel_rfl)) (fun _ _ _ h => h) (Or.inl ⟨by rfl, ?_⟩) ?_ ?_
                                            rotate_left
                                            · intro w'
                                              go_simp
                                              with_reducible rfl
                                            rotate_left
                                            · simp only [Act.put, List.setIfInBounds_toArray, List.set_cons_zero, List.set_cons_succ, i64_w, i32_w]
                                              rfl
                                            refine done_ (done_of HT_.out (by kernel_rfl)) ?_
                                            try go_wp2_with (first | ((with_reducible refine gate_callee (f := 11) rfl ?_); refine goesL_ (some 59) rfl rfl Try.func11 (by kernel_rfl) rfl #[.slice (some ad389) l0.length c0, .int .i64 (wrap64 (a1 / 16))] rfl (by (try simp only [List.map_toArray, List.map_cons, List.map_nil]); first | done | rfl | (simp only [List.length_drop, List.length_take]; rfl)) ?_; (with_reducible refine (brackets_Tax.calls kj3 _ _ l0 (wrap64 (a1 / 16)) t404 t405 _ ?side1 ?side2 A20.out).mono ?_); (case side1 => repeat (first | exact (Kd.C_below HR0.out HB.out) | (with_reducible refine Kd.C_alloc ?_ _) | (with_reducible refine Kd.C_drewN ?_ _) | (with_reducible refine Kd.C_drew ?_))); (case side2 => exact HC0.out); rintro e w50 ⟨rfl, hb⟩; refine ⟨_, rfl, ?_⟩; have n0_ := Aside0.mk (Kd.R_below (by (with_reducible repeat (first | apply Kd.R_alloc | apply Kd.R_drewN | apply Kd.R_drew)); exact HO400.out) hb); have n1_ := Aside0.mk (Kd.R_below (by (with_reducible repeat (first | apply Kd.R_alloc | apply Kd.R_drewN | apply Kd.R_drew)); exact HO403.out) hb); have n2_ := Aside0.mk (blk_below (g := gb390) (o := .cells #[.int .i64 ((rd_T34 l0 (ji10)).f0), .int .i64 ((rd_T34 l0 (ji10)).f1)] 34 (0, 0)) (by (with_reducible repeat (first | refine blk_drewN ?_ _ | refine blk_drew ?_ | refine blk_alloc ?_ _)); exact BK390.out) hb); have n3_ := Aside0.mk (below_step (by repeat (first | (with_reducible first | exact HB.out | apply below_alloc | apply pw_below_drewN | apply below_drew1 | refine below_set ?_ GE390.out) | exact HB.out)) hb); clear HO400; clear HO403; clear BK390; clear HB; have HO400 := n0_; have HO403 := n1_; have BK390 := n2_; have HB := n3_; clear n0_ n1_ n2_ n3_; (try clear hb); (try clear hb2); (try clear hk); (try clear hi); obtain ⟨Ao51, co51, eo51⟩ := Kd.R_slice HO403.out; subst eo51) | ((with_reducible refine gate_callee (f := 11) rfl ?_); refine goesL_ (some 65) rfl rfl Try.func11 (by kernel_rfl) rfl #[.slice Ao51 y401.length co51, .int .i64 (wrap64 (a1 / 16))] rfl (by (try simp only [List.map_toArray, List.map_cons, List.map_nil]); first | done | rfl | (simp only [List.length_drop, List.length_take]; rfl)) ?_; (with_reducible refine (brackets_Tax.calls kj3 _ _ y401 (wrap64 (a1 / 16)) t406 t407 _ ?side1 ?side2 A21.out).mono ?_); (case side1 => repeat (first | exact (Kd.R_reads' HO403.out).2.2 | (with_reducible refine Kd.C_alloc ?_ _) | (with_reducible refine Kd.C_drewN ?_ _) | (with_reducible refine Kd.C_drew ?_))); (case side2 => exact (Kd.R_reads' HO403.out).2.1); rintro e w52 ⟨rfl, hb⟩; refine ⟨_, rfl, ?_⟩; have n0_ := Aside0.mk (Kd.R_below (by (with_reducible repeat (first | apply Kd.R_alloc | apply Kd.R_drewN | apply Kd.R_drew)); exact HO400.out) hb); have n1_ := Aside0.mk (Kd.R_below (by (with_reducible repeat (first | apply Kd.R_alloc | apply Kd.R_drewN | apply Kd.R_drew)); exact HO403.out) hb); have n2_ := Aside0.mk (blk_below (g := gb390) (o := .cells #[.int .i64 ((rd_T34 l0 (ji10)).f0), .int .i64 ((rd_T34 l0 (ji10)).f1)] 34 (0, 0)) (by (with_reducible repeat (first | refine blk_drewN ?_ _ | refine blk_drew ?_ | refine blk_alloc ?_ _)); exact BK390.out) hb); have n3_ := Aside0.mk (below_step (by repeat (first | (with_reducible first | exact HB.out | apply below_alloc | apply pw_below_drewN | apply below_drew1 | refine below_set ?_ GE390.out) | exact HB.out)) hb); clear HO400; clear HO403; clear BK390; clear HB; have HO400 := n0_; have HO403 := n1_; have BK390 := n2_; have HB := n3_; clear n0_ n1_ n2_ n3_; (try clear hb); (try clear hb2); (try clear hk); (try clear hi)) | ((with_reducible refine gate_callee (f := 10) rfl ?_); refine goesL_ (some 71) rfl rfl Try.func10 (by kernel_rfl) rfl #[.slice (some ad389) l0.length c0, .int .i64 (wrap64 (a1 / 16))] rfl (by (try simp only [List.map_toArray, List.map_cons, List.map_nil]); first | done | rfl | (simp only [List.length_drop, List.length_take]; rfl)) ?_; (with_reducible refine (brackets_Parts.calls kj3 _ _ l0 (wrap64 (a1 / 16)) t408 t409 _ ?side1 ?side2 A22.out).mono ?_); (case side1 => repeat (first | exact (Kd.C_below HR0.out HB.out) | (with_reducible refine Kd.C_alloc ?_ _) | (with_reducible refine Kd.C_drewN ?_ _) | (with_reducible refine Kd.C_drew ?_))); (case side2 => exact HC0.out); rintro e w53 ⟨v410, rfl, ho0, hb⟩; refine ⟨_, rfl, ?_⟩; have n0_ := Aside0.mk (Kd.R_below (by (with_reducible repeat (first | apply Kd.R_alloc | apply Kd.R_drewN | apply Kd.R_drew)); exact HO400.out) hb); have n1_ := Aside0.mk (Kd.R_below (by (with_reducible repeat (first | apply Kd.R_alloc | apply Kd.R_drewN | apply Kd.R_drew)); exact HO403.out) hb); have n2_ := Aside0.mk (Kd.R_lower ho0 (below_size (by repeat (first | (with_reducible first | exact HB.out | apply below_alloc | apply pw_below_drewN | apply below_drew1 | refine below_set ?_ GE390.out) | exact HB.out)))); have n3_ := Aside0.mk (blk_below (g := gb390) (o := .cells #[.int .i64 ((rd_T34 l0 (ji10)).f0), .int .i64 ((rd_T34 l0 (ji10)).f1)] 34 (0, 0)) (by (with_reducible repeat (first | refine blk_drewN ?_ _ | refine blk_drew ?_ | refine blk_alloc ?_ _)); exact BK390.out) hb); have n4_ := Aside0.mk (below_step (by repeat (first | (with_reducible first | exact HB.out | apply below_alloc | apply pw_below_drewN | apply below_drew1 | refine below_set ?_ GE390.out) | exact HB.out)) hb); clear HO400; clear HO403; clear BK390; clear HB; have HO400 := n0_; have HO403 := n1_; have HO411 := n2_; have BK390 := n3_; have HB := n4_; clear n0_ n1_ n2_ n3_ n4_; (try clear hb); (try clear hb2); (try clear hk); (try clear hi); (try clear ho0)) | ((with_reducible refine gate_callee (f := 10) rfl ?_); refine goesL_ (some 77) rfl rfl Try.func10 (by kernel_rfl) rfl #[.slice Ao51 y401.length co51, .int .i64 (wrap64 (a1 / 16))] rfl (by (try simp only [List.map_toArray, List.map_cons, List.map_nil]); first | done | rfl | (simp only [List.length_drop, List.length_take]; rfl)) ?_; (with_reducible refine (brackets_Parts.calls kj3 _ _ y401 (wrap64 (a1 / 16)) t412 t413 _ ?side1 ?side2 A23.out).mono ?_); (case side1 => repeat (first | exact (Kd.R_reads' HO403.out).2.2 | (with_reducible refine Kd.C_alloc ?_ _) | (with_reducible refine Kd.C_drewN ?_ _) | (with_reducible refine Kd.C_drew ?_))); (case side2 => exact (Kd.R_reads' HO403.out).2.1); rintro e w54 ⟨v414, rfl, ho0, hb⟩; refine ⟨_, rfl, ?_⟩; have n0_ := Aside0.mk (Kd.R_below (by (with_reducible repeat (first | apply Kd.R_alloc | apply Kd.R_drewN | apply Kd.R_drew)); exact HO400.out) hb); have n1_ := Aside0.mk (Kd.R_below (by (with_reducible repeat (first | apply Kd.R_alloc | apply Kd.R_drewN | apply Kd.R_drew)); exact HO403.out) hb); have n2_ := Aside0.mk (Kd.R_elder' (by (with_reducible repeat (first | apply Kd.R_alloc | apply Kd.R_drewN | apply Kd.R_drew)); exact HO411.out) (Kd.R_base ho0) hb); have n3_ := Aside0.mk (Kd.R_lower (Kd.R_new' ho0 (Kd.R_lt (by (with_reducible repeat (first | apply Kd.R_alloc | apply Kd.R_drewN | apply Kd.R_drew)); exact HO411.out))) (below_size (by repeat (first | (with_reducible first | exact HB.out | apply below_alloc | apply pw_below_drewN | apply below_drew1 | refine below_set ?_ GE390.out) | exact HB.out)))); have n4_ := Aside0.mk (blk_below (g := gb390) (o := .cells #[.int .i64 ((rd_T34 l0 (ji10)).f0), .int .i64 ((rd_T34 l0 (ji10)).f1)] 34 (0, 0)) (by (with_reducible repeat (first | refine blk_drewN ?_ _ | refine blk_drew ?_ | refine blk_alloc ?_ _)); exact BK390.out) hb); have n5_ := Aside0.mk (below_step (by repeat (first | (with_reducible first | exact HB.out | apply below_alloc | apply pw_below_drewN | apply below_drew1 | refine below_set ?_ GE390.out) | exact HB.out)) hb); clear HO400; clear HO403; clear HO411; clear BK390; clear HB; have HO400 := n0_; have HO403 := n1_; have HO411 := n2_; have HO415 := n3_; have BK390 := n4_; have HB := n5_; clear n0_ n1_ n2_ n3_ n4_ n5_; (try clear hb); (try clear hb2); (try clear hk); (try clear hi); (try clear ho0); obtain ⟨Ao55, co55, eo55⟩ := Kd.R_slice HO411.out; subst eo55; obtain ⟨Ao56, co56, eo56⟩ := Kd.R_slice HO415.out; subst eo56))
                                            have n0_ := Aside0.mk (Kd.R_drew HO400.out)
                                            have n1_ := Aside0.mk (Kd.R_drew HO403.out)
                                            have n2_ := Aside0.mk (Kd.R_drew HO411.out)
                                            have n3_ := Aside0.mk (Kd.R_drew HO415.out)
                                            have n4_ := Aside0.mk (blk_drew BK390.out)
                                            have n5_ := Aside0.mk (below_drew1 HB.out)
                                            clear HO400
                                            clear HO403
                                            clear HO411
                                            clear HO415
                                            clear BK390
                                            clear HB
                                            have HO400 := n0_
                                            have HO403 := n1_
                                            have HO411 := n2_
                                            have HO415 := n3_
                                            have BK390 := n4_
                                            have HB := n5_
                                            clear n0_ n1_ n2_ n3_ n4_ n5_
                                            have p416 : 0 ≤ ((ji10) : Int) := of_decide_eq_true (by first | (with_reducible assumption) | assumption)
                                            have q416 : (ji10) < (t412.length : Int) := of_decide_eq_true (by first | (with_reducible assumption) | assumption)
                                            obtain ⟨ad416, e416, hx416_0⟩ := Kd.at_int (Kd.R_reads' HO415.out).2.2 (ji10) p416 q416
                                            cases e416
                                            replace p416 := eq_true p416
                                            replace q416 := eq_true q416
                                            have p417 : 0 ≤ ((l0.length : Int) : Int) := of_decide_eq_true (by first | (with_reducible assumption) | assumption)
                                            have q417 : (l0.length : Int) < (t412.length : Int) := of_decide_eq_true (by first | (with_reducible assumption) | assumption)
                                            obtain ⟨ad417, e417, hx417_0⟩ := Kd.at_int (Kd.R_reads' HO415.out).2.2 (l0.length : Int) p417 q417
                                            obtain rfl : ad416 = ad417 := (by injection e417)
                                            (try simp only [Go.IntWalk.toNatUp] at hx417_0)
                                            replace p417 := eq_true p417
                                            replace q417 := eq_true q417
                                            have p418 : 0 ≤ ((ji10) : Int) := of_decide_eq_true (by first | (with_reducible assumption) | assumption)
                                            have q418 : (ji10) < (t408.length : Int) := of_decide_eq_true (by first | (with_reducible assumption) | assumption)
                                            obtain ⟨ad418, e418, hx418_0⟩ := Kd.at_int (Kd.R_reads' HO411.out).2.2 (ji10) p418 q418
                                            cases e418
                                            replace p418 := eq_true p418
                                            replace q418 := eq_true q418
                                            refine start_ (n := 32) (S := fun w' => w'.cell? (ad416.add ((ji10)).toNat) = some (.int .i64 (rd t412 (ji10))) ∧ w'.cell? (ad416.add ((l0.length : Int)).toNat) = some (.int .i64 (rd t412 (l0.length : Int))) ∧ w'.cell? (ad418.add ((ji10)).toNat) = some (.int .i64 (rd t408 (ji10)))) (ds := []) #[false, false, false, false, false, false, false, false, false, false, false, false, false, false, false, false, false, false, false, false, false, false, false, false, false, false, false, false, false, false, false, false] (by kernel_rfl) rfl rfl ⟨hx416_0, hx417_0, hx418_0⟩ (fun hHeld => ?_); refine with_tabW paymasterlaw05_BracketsSplit.tab15 paymasterlaw05_BracketsSplit.bits15 (fun HT_ HW_ => ?_)
                                            generalize w54.drew = w57 at HO400 HO403 HO411 HO415 BK390 HB hx416_0 hx417_0 hx418_0 hHeld ⊢
                                            refine pure_ (i := 0) (N := some 110) (v := ?_) (a' := ?_) #[true, false, false, false, false, false, false, false, false, false, false, false, false, false, false, false, false, false, false, false, false, false, false, false, false, false, false, false, false, false, false, false] rfl rfl (any_of HT_.out (by kernel_rfl)) (fun _ _ _ h => h) (Or.inl ⟨by rfl, ?_⟩) ?_ ?_
                                            rotate_left
                                            · intro w'
                                              go_simp
                                              with_reducible rfl
                                            rotate_left
                                            · simp only [Act.put, List.setIfInBounds_toArray, List.set_cons_zero, List.set_cons_succ, i64_w, i32_w]
                                              rfl
                                            refine pure_ (i := 1) (N := some 111) (v := ?_) (a' := ?_) #[true, true, false, false, false, false, false, false, false, false, false, false, false, false, false, false, false, false, false, false, false, false, false, false, false, false, false, false, false, false, false, false] rfl rfl (any_of HT_.out (by kernel_rfl)) (fun _ _ _ h => h) (Or.inl ⟨by rfl, ?_⟩) ?_ ?_
                                            rotate_left
                                            · intro w'
                                              go_simp
                                              with_reducible rfl
                                            rotate_left
                                            · simp only [Act.put, List.setIfInBounds_toArray, List.set_cons_zero, List.set_cons_succ, i64_w, i32_w]
                                              rfl
                                            refine pure_ (i := 2) (N := some 112) (v := ?_) (a' := ?_) #[true, true, true, false, false, false, false, false, false, false, false, false, false, false, false, false, false, false, false, false, false, false, false, false, false, false, false, false, false, false, false, false] rfl rfl (any_of HT_.out (by kernel_rfl)) (fun _ _ _ h => h) (Or.inl ⟨by rfl, ?_⟩) ?_ ?_
                                            rotate_left
                                            · intro w'
                                              go_simp
                                              with_reducible rfl
                                            rotate_left
                                            · simp only [Act.put, List.setIfInBounds_toArray, List.set_cons_zero, List.set_cons_succ, i64_w, i32_w]
                                              rfl
                                            refine pure_ (i := 3) (N := some 113) (v := ?_) (a' := ?_) #[true, true, true, true, false, false, false, false, false, false, false, false, false, false, false, false, false, false, false, false, false, false, false, false, false, false, false, false, false, false, false, false] rfl rfl (any_of HT_.out (by kernel_rfl)) (fun _ _ _ h => h) (Or.inl ⟨by rfl, ?_⟩) ?_ ?_
                                            rotate_left
                                            · intro w'
                                              go_simp
                                              with_reducible rfl
                                            rotate_left
                                            · simp only [Act.put, List.setIfInBounds_toArray, List.set_cons_zero, List.set_cons_succ, i64_w, i32_w]
                                              rfl
                                            refine pure_ (i := 4) (N := some 114) (v := ?_) (a' := ?_) #[true, true, true, true, true, false, false, false, false, false, false, false, false, false, false, false, false, false, false, false, false, false, false, false, false, false, false, false, false, false, false, false] rfl rfl (any_of HT_.out (by kernel_rfl)) (fun _ _ _ h => h) (Or.inl ⟨by rfl, ?_⟩) ?_ ?_
                                            rotate_left
                                            · intro w'
                                              go_simp
                                              with_reducible rfl
                                            rotate_left
                                            · simp only [Act.put, List.setIfInBounds_toArray, List.set_cons_zero, List.set_cons_succ, i64_w, i32_w]
                                              rfl
                                            refine pure_ (i := 5) (N := some 115) (v := ?_) (a' := ?_) #[true, true, true, true, true, true, false, false, false, false, false, false, false, false, false, false, false, false, false, false, false, false, false, false, false, false, false, false, false, false, false, false] rfl rfl (any_of HT_.out (by kernel_rfl)) (fun _ _ _ h => h) (Or.inl ⟨by rfl, ?_⟩) ?_ ?_
                                            rotate_left
                                            · intro w'
                                              go_simp
                                              with_reducible rfl
                                            rotate_left
                                            · simp only [Act.put, List.setIfInBounds_toArray, List.set_cons_zero, List.set_cons_succ, i64_w, i32_w]
                                              rfl
                                            refine pure_ (i := 6) (N := some 116) (v := ?_) (a' := ?_) #[true, true, true, true, true, true, true, false, false, false, false, false, false, false, false, false, false, false, false, false, false, false, false, false, false, false, false, false, false, false, false, false] rfl rfl (any_of HT_.out (by kernel_rfl)) (fun _ _ _ h => h) (Or.inl ⟨by rfl, ?_⟩) ?_ ?_
                                            rotate_left
                                            · intro w'
                                              go_simp
                                              with_reducible rfl
                                            rotate_left
                                            · simp only [Act.put, List.setIfInBounds_toArray, List.set_cons_zero, List.set_cons_succ, i64_w, i32_w]
                                              rfl
                                            refine pure_ (i := 7) (N := some 117) (v := ?_) (a' := ?_) #[true, true, true, true, true, true, true, true, false, false, false, false, false, false, false, false, false, false, false, false, false, false, false, false, false, false, false, false, false, false, false, false] rfl rfl (any_of HT_.out (by kernel_rfl)) (fun _ _ _ h => h) (Or.inl ⟨by rfl, ?_⟩) ?_ ?_
                                            rotate_left
                                            · intro w'
                                              go_simp
                                              with_reducible rfl
                                            rotate_left
                                            · simp only [Act.put, List.setIfInBounds_toArray, List.set_cons_zero, List.set_cons_succ, i64_w, i32_w]
                                              rfl
                                            refine pure_ (i := 8) (N := some 118) (v := ?_) (a' := ?_) #[true, true, true, true, true, true, true, true, true, false, false, false, false, false, false, false, false, false, false, false, false, false, false, false, false, false, false, false, false, false, false, false] rfl rfl (any_of HT_.out (by kernel_rfl)) (fun _ _ _ h => h) (Or.inl ⟨by rfl, ?_⟩) ?_ ?_
                                            rotate_left
                                            · intro w'
                                              go_simp
                                              with_reducible rfl
                                            rotate_left
                                            · simp only [Act.put, List.setIfInBounds_toArray, List.set_cons_zero, List.set_cons_succ, i64_w, i32_w]
                                              rfl
                                            refine pure_ (i := 9) (N := some 119) (v := ?_) (a' := ?_) #[true, true, true, true, true, true, true, true, true, true, false, false, false, false, false, false, false, false, false, false, false, false, false, false, false, false, false, false, false, false, false, false] rfl rfl (any_of HT_.out (by kernel_rfl)) (fun _ _ _ h => h) (Or.inl ⟨by rfl, ?_⟩) ?_ ?_
                                            rotate_left
                                            · intro w'
                                              go_simp
                                              with_reducible rfl
                                            rotate_left
                                            · simp only [Act.put, List.setIfInBounds_toArray, List.set_cons_zero, List.set_cons_succ, i64_w, i32_w]
                                              rfl
                                            refine pure_ (i := 10) (N := some 120) (v := ?_) (a' := ?_) #[true, true, true, true, true, true, true, true, true, true, true, false, false, false, false, false, false, false, false, false, false, false, false, false, false, false, false, false, false, false, false, false] rfl rfl (any_of HT_.out (by kernel_rfl)) (fun _ _ _ h => h) (Or.inl ⟨by rfl, ?_⟩) ?_ ?_
                                            rotate_left
                                            · intro w'
                                              go_simp
                                              with_reducible rfl
                                            rotate_left
                                            · simp only [Act.put, List.setIfInBounds_toArray, List.set_cons_zero, List.set_cons_succ, i64_w, i32_w]
                                              rfl
                                            refine pure_ (i := 11) (N := some 121) (v := ?_) (a' := ?_) #[true, true, true, true, true, true, true, true, true, true, true, true, false, false, false, false, false, false, false, false, false, false, false, false, false, false, false, false, false, false, false, false] rfl rfl (any_of HT_.out (by kernel_rfl)) (fun _ _ _ h => h) (Or.inl ⟨by rfl, ?_⟩) ?_ ?_
                                            rotate_left
                                            · intro w'
                                              go_simp
                                              with_reducible rfl
                                            rotate_left
                                            · simp only [Act.put, List.setIfInBounds_toArray, List.set_cons_zero, List.set_cons_succ, i64_w, i32_w]
                                              rfl
                                            refine pure_ (i := 12) (N := some 122) (v := ?_) (a' := ?_) #[true, true, true, true, true, true, true, true, true, true, true, true, true, false, false, false, false, false, false, false, false, false, false, false, false, false, false, false, false, false, false, false] rfl rfl (any_of HT_.out (by kernel_rfl)) (fun _ _ _ h => h) (Or.inl ⟨by rfl, ?_⟩) ?_ ?_
                                            rotate_left
                                            · intro w'
                                              go_simp
                                              with_reducible rfl
                                            rotate_left
                                            · simp only [Act.put, List.setIfInBounds_toArray, List.set_cons_zero, List.set_cons_succ, i64_w, i32_w]
                                              rfl
                                            refine pure_ (i := 13) (N := some 123) (v := ?_) (a' := ?_) #[true, true, true, true, true, true, true, true, true, true, true, true, true, true, false, false, false, false, false, false, false, false, false, false, false, false, false, false, false, false, false, false] rfl rfl (any_of HT_.out (by kernel_rfl)) (fun _ _ _ h => h) (Or.inl ⟨by rfl, ?_⟩) ?_ ?_
                                            rotate_left
                                            · intro w'
                                              go_simp
                                              with_reducible rfl
                                            rotate_left
                                            · simp only [Act.put, List.setIfInBounds_toArray, List.set_cons_zero, List.set_cons_succ, i64_w, i32_w]
                                              rfl
                                            refine pure_ (i := 14) (N := some 124) (v := ?_) (a' := ?_) #[true, true, true, true, true, true, true, true, true, true, true, true, true, true, true, false, false, false, false, false, false, false, false, false, false, false, false, false, false, false, false, false] rfl rfl (any_of HT_.out (by kernel_rfl)) (fun _ _ _ h => h) (Or.inl ⟨by rfl, ?_⟩) ?_ ?_
                                            rotate_left
                                            · intro w'
                                              go_simp
                                              with_reducible rfl
                                            rotate_left
                                            · simp only [Act.put, List.setIfInBounds_toArray, List.set_cons_zero, List.set_cons_succ, i64_w, i32_w]
                                              rfl
                                            refine pure_ (i := 16) (N := some 126) (v := ?_) (a' := ?_) #[true, true, true, true, true, true, true, true, true, true, true, true, true, true, true, false, true, false, false, false, false, false, false, false, false, false, false, false, false, false, false, false] rfl rfl (any_of HT_.out (by kernel_rfl)) (fun _ _ _ h => h) (Or.inl ⟨by rfl, ?_⟩) ?_ ?_
                                            rotate_left
                                            · intro w'
                                              go_simp
                                              with_reducible rfl
                                            rotate_left
                                            · simp only [Act.put, List.setIfInBounds_toArray, List.set_cons_zero, List.set_cons_succ, i64_w, i32_w]
                                              rfl
                                            refine pure_ (i := 17) (N := some 127) (v := ?_) (a' := ?_) #[true, true, true, true, true, true, true, true, true, true, true, true, true, true, true, false, true, true, false, false, false, false, false, false, false, false, false, false, false, false, false, false] rfl rfl (any_of HT_.out (by kernel_rfl)) (fun _ _ _ h => h) (Or.inl ⟨by rfl, ?_⟩) ?_ ?_
                                            rotate_left
                                            · intro w'
                                              go_simp
                                              with_reducible rfl
                                            rotate_left
                                            · simp only [Act.put, List.setIfInBounds_toArray, List.set_cons_zero, List.set_cons_succ, i64_w, i32_w]
                                              rfl
                                            refine pure_ (i := 18) (N := some 128) (v := ?_) (a' := ?_) #[true, true, true, true, true, true, true, true, true, true, true, true, true, true, true, false, true, true, true, false, false, false, false, false, false, false, false, false, false, false, false, false] rfl rfl (any_of HT_.out (by kernel_rfl)) (fun _ _ _ h => h) (Or.inl ⟨by rfl, ?_⟩) ?_ ?_
                                            rotate_left
                                            · intro w'
                                              go_simp
                                              with_reducible rfl
                                            rotate_left
                                            · simp only [Act.put, List.setIfInBounds_toArray, List.set_cons_zero, List.set_cons_succ, i64_w, i32_w]
                                              rfl
                                            refine pure_ (i := 21) (N := some 131) (v := ?_) (a' := ?_) #[true, true, true, true, true, true, true, true, true, true, true, true, true, true, true, false, true, true, true, false, false, true, false, false, false, false, false, false, false, false, false, false] rfl rfl (any_of HT_.out (by kernel_rfl)) (fun _ _ _ h => h) (Or.inl ⟨by rfl, ?_⟩) ?_ ?_
                                            rotate_left
                                            · intro w'
                                              go_simp
                                              with_reducible rfl
                                            rotate_left
                                            · simp only [Act.put, List.setIfInBounds_toArray, List.set_cons_zero, List.set_cons_succ, i64_w, i32_w]
                                              rfl
                                            refine pure_ (i := 22) (N := some 132) (v := ?_) (a' := ?_) #[true, true, true, true, true, true, true, true, true, true, true, true, true, true, true, false, true, true, true, false, false, true, true, false, false, false, false, false, false, false, false, false] rfl rfl (any_of HT_.out (by kernel_rfl)) (fun _ _ _ h => h) (Or.inl ⟨by rfl, ?_⟩) ?_ ?_
                                            rotate_left
                                            · intro w'
                                              go_simp
                                              with_reducible rfl
                                            rotate_left
                                            · simp only [Act.put, List.setIfInBounds_toArray, List.set_cons_zero, List.set_cons_succ, i64_w, i32_w]
                                              rfl
                                            refine pure_ (i := 23) (N := some 133) (v := ?_) (a' := ?_) #[true, true, true, true, true, true, true, true, true, true, true, true, true, true, true, false, true, true, true, false, false, true, true, true, false, false, false, false, false, false, false, false] rfl rfl (any_of HT_.out (by kernel_rfl)) (fun _ _ _ h => h) (Or.inl ⟨by rfl, ?_⟩) ?_ ?_
                                            rotate_left
                                            · intro w'
                                              go_simp
                                              with_reducible rfl
                                            rotate_left
                                            · simp only [Act.put, List.setIfInBounds_toArray, List.set_cons_zero, List.set_cons_succ, i64_w, i32_w]
                                              rfl
                                            refine pure_ (i := 24) (N := some 134) (v := ?_) (a' := ?_) #[true, true, true, true, true, true, true, true, true, true, true, true, true, true, true, false, true, true, true, false, false, true, true, true, true, false, false, false, false, false, false, false] rfl rfl (any_of HT_.out (by kernel_rfl)) (fun _ _ _ h => h) (Or.inl ⟨by rfl, ?_⟩) ?_ ?_
                                            rotate_left
                                            · intro w'
                                              go_simp
                                              with_reducible rfl
                                            rotate_left
                                            · simp only [Act.put, List.setIfInBounds_toArray, List.set_cons_zero, List.set_cons_succ, i64_w, i32_w]
                                              rfl
                                            refine take_ (i := 15) (N := some 125) (v := ?_) (a' := ?_) #[true, true, true, true, true, true, true, true, true, true, true, true, true, true, true, true, true, true, true, false, false, true, true, true, true, false, false, false, false, false, false, false] rfl rfl (take_ofW HT_.out HW_.out (by kernel_rfl)) (fun _ _ _ h => h) (Or.inl ⟨by rfl, ?_⟩) hHeld ?_ ?_
                                            rotate_left
                                            · rintro w' ⟨s0, s1, s2⟩
                                              try simp only [Int.toNat_natCast] at s0 s1 s2
                                              go_simp
                                              with_reducible rfl
                                            rotate_left
                                            · simp only [Act.put, List.setIfInBounds_toArray, List.set_cons_zero, List.set_cons_succ, i64_w, i32_w]
                                              rfl
                                            refine take_ (i := 19) (N := some 129) (v := ?_) (a' := ?_) #[true, true, true, true, true, true, true, true, true, true, true, true, true, true, true, true, true, true, true, true, false, true, true, true, true, false, false, false, false, false, false, false] rfl rfl (take_ofW HT_.out HW_.out (by kernel_rfl)) (fun _ _ _ h => h) (Or.inl ⟨by rfl, ?_⟩) hHeld ?_ ?_
                                            rotate_left
                                            · rintro w' ⟨s0, s1, s2⟩
                                              try simp only [Int.toNat_natCast] at s0 s1 s2
                                              go_simp
                                              with_reducible rfl
                                            rotate_left
                                            · simp only [Act.put, List.setIfInBounds_toArray, List.set_cons_zero, List.set_cons_succ, i64_w, i32_w]
                                              rfl
                                            refine pure_ (i := 20) (N := some 130) (v := ?_) (a' := ?_) #[true, true, true, true, true, true, true, true, true, true, true, true, true, true, true, true, true, true, true, true, true, true, true, true, true, false, false, false, false, false, false, false] rfl rfl (any_of HT_.out (by kernel_rfl)) (fun _ _ _ h => h) (Or.inl ⟨by rfl, ?_⟩) ?_ ?_
                                            rotate_left
                                            · intro w'
                                              go_simp
                                              with_reducible rfl
                                            rotate_left
                                            · simp only [Act.put, List.setIfInBounds_toArray, List.set_cons_zero, List.set_cons_succ, i64_w, i32_w]
                                              rfl
                                            refine take_ (i := 25) (N := some 135) (v := ?_) (a' := ?_) #[true, true, true, true, true, true, true, true, true, true, true, true, true, true, true, true, true, true, true, true, true, true, true, true, true, true, false, false, false, false, false, false] rfl rfl (take_ofW HT_.out HW_.out (by kernel_rfl)) (fun _ _ _ h => h) (Or.inl ⟨by rfl, ?_⟩) hHeld ?_ ?_
                                            rotate_left
                                            · rintro w' ⟨s0, s1, s2⟩
                                              try simp only [Int.toNat_natCast] at s0 s1 s2
                                              go_simp
                                              with_reducible rfl
                                            rotate_left
                                            · simp only [Act.put, List.setIfInBounds_toArray, List.set_cons_zero, List.set_cons_succ, i64_w, i32_w]
                                              rfl
                                            refine pure_ (i := 26) (N := some 136) (v := ?_) (a' := ?_) #[true, true, true, true, true, true, true, true, true, true, true, true, true, true, true, true, true, true, true, true, true, true, true, true, true, true, true, false, false, false, false, false] rfl rfl (any_of HT_.out (by kernel_rfl)) (fun _ _ _ h => h) (Or.inl ⟨by rfl, ?_⟩) ?_ ?_
                                            rotate_left
                                            · intro w'
                                              go_simp
                                              with_reducible rfl
                                            rotate_left
                                            · simp only [Act.put, List.setIfInBounds_toArray, List.set_cons_zero, List.set_cons_succ, i64_w, i32_w]
                                              rfl
                                            refine pure_ (i := 27) (N := some 137) (v := ?_) (a' := ?_) #[true, true, true, true, true, true, true, true, true, true, true, true, true, true, true, true, true, true, true, true, true, true, true, true, true, true, true, true, false, false, false, false] rfl rfl (any_of HT_.out (by kernel_rfl)) (fun _ _ _ h => h) (Or.inl ⟨by rfl, ?_⟩) ?_ ?_
                                            rotate_left
                                            · intro w'
                                              go_simp
                                              with_reducible rfl
                                            rotate_left
                                            · simp only [Act.put, List.setIfInBounds_toArray, List.set_cons_zero, List.set_cons_succ, i64_w, i32_w]
                                              rfl
                                            refine pure_ (i := 28) (N := some 138) (v := ?_) (a' := ?_) #[true, true, true, true, true, true, true, true, true, true, true, true, true, true, true, true, true, true, true, true, true, true, true, true, true, true, true, true, true, false, false, false] rfl rfl (any_of HT_.out (by kernel_rfl)) (fun _ _ _ h => h) (Or.inl ⟨by rfl, ?_⟩) ?_ ?_
                                            rotate_left
                                            · intro w'
                                              go_simp
                                              with_reducible rfl
                                            rotate_left
                                            · simp only [Act.put, List.setIfInBounds_toArray, List.set_cons_zero, List.set_cons_succ, i64_w, i32_w]
                                              rfl
                                            refine one_ (i := 29) (N := some 139) #[true, true, true, true, true, true, true, true, true, true, true, true, true, true, true, true, true, true, true, true, true, true, true, true, true, true, true, true, true, true, false, false] rfl rfl (one_of HT_.out (by kernel_rfl)) (by decide) (fun K hK => ?_)
                                            refine goes_ Try.func9 (by kernel_rfl) rfl #[] (by rfl) rfl rfl (by (try simp only [List.map_toArray, List.map_cons, List.map_nil]); first | done | rfl | (simp only [List.length_drop, List.length_take]; rfl)) ?_
                                            with_reducible refine (paymasterlaw05_awake.calls kj3  t419 _ A37.out).mono ?_
                                            rintro e w58 ⟨rfl, hb⟩
                                            have HS0_ := (hb.cell (World.block_lt_of_cell? _ _ (hHeld.1))).trans (hHeld.1)
                                            have HS1_ := (hb.cell (World.block_lt_of_cell? _ _ (hHeld.2.1))).trans (hHeld.2.1)
                                            have HS2_ := (hb.cell (World.block_lt_of_cell? _ _ (hHeld.2.2))).trans (hHeld.2.2)
                                            refine ⟨_, rfl, ?_⟩
                                            have n0_ := Aside0.mk (Kd.R_below (by (with_reducible repeat (first | apply Kd.R_alloc | apply Kd.R_drewN | apply Kd.R_drew)); exact HO400.out) hb)
                                            have n1_ := Aside0.mk (Kd.R_below (by (with_reducible repeat (first | apply Kd.R_alloc | apply Kd.R_drewN | apply Kd.R_drew)); exact HO403.out) hb)
                                            have n2_ := Aside0.mk (Kd.R_below (by (with_reducible repeat (first | apply Kd.R_alloc | apply Kd.R_drewN | apply Kd.R_drew)); exact HO411.out) hb)
                                            have n3_ := Aside0.mk (Kd.R_below (by (with_reducible repeat (first | apply Kd.R_alloc | apply Kd.R_drewN | apply Kd.R_drew)); exact HO415.out) hb)
                                            have n4_ := Aside0.mk (blk_below (g := gb390) (o := .cells #[.int .i64 ((rd_T34 l0 (ji10)).f0), .int .i64 ((rd_T34 l0 (ji10)).f1)] 34 (0, 0)) (by (with_reducible repeat (first | refine blk_drewN ?_ _ | refine blk_drew ?_ | refine blk_alloc ?_ _)); exact BK390.out) hb)
                                            have n5_ := Aside0.mk (below_step (by repeat (first | (with_reducible first | exact HB.out | apply below_alloc | apply pw_below_drewN | apply below_drew1 | refine below_set ?_ GE390.out) | exact HB.out)) hb)
                                            clear HO400
                                            clear HO403
                                            clear HO411
                                            clear HO415
                                            clear BK390
                                            clear HB
                                            have HO400 := n0_
                                            have HO403 := n1_
                                            have HO411 := n2_
                                            have HO415 := n3_
                                            have BK390 := n4_
                                            have HB := n5_
                                            clear n0_ n1_ n2_ n3_ n4_ n5_
                                            (try clear hb)
                                            (try clear hb2)
                                            (try clear hk)
                                            (try clear hi)
                                            refine hK.out _ _ ⟨HS0_, HS1_, HS2_⟩ (fun hHeld => ?_)
                                            clear hK K
                                            refine norm_ (a' := ?_) ?_ ?_
                                            rotate_left
                                            · show Act.put _ (some 139) _ = _
                                              simp only [Act.put, List.setIfInBounds_toArray, List.set_cons_zero, List.set_cons_succ, i64_w, i32_w]
                                              rfl
                                            refine pure_ (i := 30) (N := some 140) (v := ?_) (a' := ?_) #[true, true, true, true, true, true, true, true, true, true, true, true, true, true, true, true, true, true, true, true, true, true, true, true, true, true, true, true, true, true, true, false] rfl rfl (any_of HT_.out (by kernel_rfl)) (fun _ _ _ h => h) (Or.inl ⟨by rfl, ?_⟩) ?_ ?_
                                            rotate_left
                                            · intro w'
                                              go_simp
                                              with_reducible rfl
                                            rotate_left
                                            · simp only [Act.put, List.setIfInBounds_toArray, List.set_cons_zero, List.set_cons_succ, i64_w, i32_w]
                                              rfl
                                            refine pure_ (i := 31) (N := some 6) (v := ?_) (a' := ?_) #[true, true, true, true, true, true, true, true, true, true, true, true, true, true, true, true, true, true, true, true, true, true, true, true, true, true, true, true, true, true, true, true] rfl rfl (any_of HT_.out (by kernel_rfl)) (fun _ _ _ h => h) (Or.inl ⟨by rfl, ?_⟩) ?_ ?_
                                            rotate_left
                                            · intro w'
                                              go_simp
                                              with_reducible rfl
                                            rotate_left
                                            · simp only [Act.put, List.setIfInBounds_toArray, List.set_cons_zero, List.set_cons_succ, i64_w, i32_w]
                                              rfl
                                            refine done_ (done_of HT_.out (by kernel_rfl)) ?_
                                            try go_wp2
                                            go_ret
                                            exact ⟨by first | rfl | (simp [errW_none, errW_some] <;> rfl) | (simp only [← hji10]; first | rfl | (simp [errW_none, errW_some] <;> rfl)) | (simp [*, errW_none, errW_some] <;> rfl), by repeat (first | (with_reducible first | exact HB.out | apply below_alloc | apply pw_below_drewN | apply below_drew1 | refine below_set ?_ GE390.out) | exact HB.out)⟩
                                          · rw [if_neg c36] at H
                                            exact absurd H (by simp)
                                        · rw [if_neg c35] at H
                                          exact absurd H (by simp)
                                      · rw [if_neg c34] at H
                                        exact absurd H (by simp)
                                    · rw [if_neg c33] at H
                                      exact absurd H (by simp)
                                  · rw [if_neg c32] at H
                                    exact absurd H (by simp)
                                · rw [if_neg c31] at H
                                  exact absurd H (by simp)
                              · rw [if_neg c30] at H
                                exact absurd H (by simp)
                            · rw [if_neg c29] at H
                              exact absurd H (by simp)
                          · rw [if_neg c28] at H
                            exact absurd H (by simp)
                        · rw [if_neg c27] at H
                          exact absurd H (by simp)
                      · rw [if_neg c26] at H
                        exact absurd H (by simp)
                    · rw [if_neg c25] at H
                      exact absurd H (by simp)
                  · rw [if_neg c24] at H
                    exact absurd H (by simp)
                · rw [if_neg c19] at H
                  exact absurd H (by simp)
              · rw [if_neg c18] at H
                exact absurd H (by simp)
          · rw [if_neg c12] at H
            exact absurd H (by simp)
        · rw [if_neg c11] at H
          exact absurd H (by simp)

end Go.Proofs.Ytnhcpnodleifmaa.PA
