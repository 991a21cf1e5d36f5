/- Contracts of the functions of the given program: written by wip/pmprint.py, a program of this session, which runs the print of the kit over altered functions. -/
import Derived.Test.YtocaneaofdbpoaaPAx0
namespace Go.Proofs.Ytocaneaofdbpoaa.PA
open Go.RowKit Go.Proofs.YtocaneaofdbpoaaW.PrintWords Go.Proofs.YtocaneaofdbpoaaW.PrintLast Go.Proofs.YtocaneaofdbpoaaW.PrintMore
attribute [local go_sem] max2_int min2_int max_two min_two max_three min_three max_four min_four   -- for this text's walks alone
set_option linter.unusedVariables false
set_option linter.unusedSimpArgs false

/-! ### rate_Right: function 25 -/
def rate_Right.f (a0 : Int) : Option (Bool) := if a0 ≥ 0 then (some (decide (a0 ≤ 10000))) else (some false)
set_option maxHeartbeats 8000000 in
set_option maxRecDepth 100000 in
theorem rate_Right.calls (a0 : Int) (r : Bool) (w : World) (h : rate_Right.f a0 = some r) :
    Calls Try.prog 25 #[.int .i64 a0] w fun e w' => e = .returned (.bool r) ∧ Drawn0 w w' := by
 have H : (if a0 ≥ 0 then (some (decide (a0 ≤ 10000))) else (some false)) = some r := h
 clear h
 by_cases c2 : a0 ≥ 0
 ·rw [if_pos c2] at H
  have c2b0 : decide (0 ≤ a0) = true := decide_eq_true c2
  clear c2
  obtain rfl := Option.some.inj H
  go_enter Try.func25, Try.ntmps25
  go_wp2
  go_ret
  exact ⟨sm_, dr_⟩
 ·rw [if_neg c2] at H
  have c2b0 : decide (0 ≤ a0) = false := decide_eq_false c2
  clear c2
  obtain rfl := Option.some.inj H
  go_enter Try.func25, Try.ntmps25
  go_wp2
  go_ret
  exact ⟨sm_, dr_⟩

/-! ### withhold_Right_1: function 24 -/
def withhold_Right_1.f (a0_0 : Int) (a0_1 : Int) (a0_2 : Int) : Option (Bool) := (rate_Right.f a0_0).bind fun t102 => (if t102 = true then ((rate_Right.f a0_1).bind fun t103 => (if t103 = true then (some (decide (a0_2 < 0))) else (some true))) else (some true))
set_option maxHeartbeats 8000000 in
set_option maxRecDepth 100000 in
theorem withhold_Right_1.calls (a0_0 : Int) (a0_1 : Int) (a0_2 : Int) (r : Bool) (w : World) (h : withhold_Right_1.f a0_0 a0_1 a0_2 = some r) :
    Calls Try.prog 24 #[.agg #[.int .i64 a0_0, .int .i64 a0_1, .int .i64 a0_2]] w fun e w' => e = .returned (.bool r) ∧ Below w.heap.size w w' := by
 have hu41 := Try.underlying41
 have HB := Aside0.mk (Below.refl w.heap.size w)
 have H : ((rate_Right.f a0_0).bind fun t102 => (if t102 = true then ((rate_Right.f a0_1).bind fun t103 => (if t103 = true then (some (decide (a0_2 < 0))) else (some true))) else (some true))) = some r := h
 clear h
 replace H := Option.bind_eq_some_iff.mp H
 obtain ⟨t102, A20, H⟩ := H
 (try dsimp only at H)
 have A2 := Aside0.mk A20
 clear A20
 by_cases c3 : t102 = true
 ·subst c3
  rw [if_pos rfl] at H
  replace H := Option.bind_eq_some_iff.mp H
  obtain ⟨t103, A40, H⟩ := H
  (try dsimp only at H)
  have A4 := Aside0.mk A40
  clear A40
  by_cases c5 : t103 = true
  ·subst c5
   rw [if_pos rfl] at H
   obtain rfl := Option.some.inj H
   go_enter Try.func24, Try.ntmps24
   go_wp2_with (first | ((with_reducible refine gate_dst (N := 1) rfl ?_); refine bx_ 1 #[.int .i64 a0_0, .int .i64 a0_1, .int .i64 a0_2] 41 ?_; intro gb101 hg w6 hbox hb; have BK101 := Aside0.mk hbox; have GW101 := gs_ hg; have GE101 := gs_ hg; replace HB := hs_ hb; clear hb hbox hg; obtain ⟨hcz7_0, hcz7_1, hcz7_2, hfz7_0, hfz7_1, hfz7_2⟩ := c3_ BK101.out) | ((with_reducible refine gate_callee (f := 25) rfl ?_); refine goesL_ (some 5) rfl rfl Try.func25 (by kernel_rfl) rfl #[.int .i64 a0_0] rfl ga_ ?_; (with_reducible refine (rate_Right.calls a0_0 true _ A2.out).mono ?_); rintro e w' ⟨rfl, ⟨nd, rfl⟩⟩; refine ⟨_, rfl, ?_⟩) | (go_at_call 25; (with_reducible refine (rate_Right.calls a0_1 true _ A4.out).mono ?_); rintro e w' ⟨rfl, ⟨nd, rfl⟩⟩))
   go_ret
   exact ⟨se_, bl_⟩
  ·replace c5 := Bool.eq_false_iff.mpr c5
   subst c5
   rw [if_neg (show ¬ (false = true) by decide)] at H
   obtain rfl := Option.some.inj H
   go_enter Try.func24, Try.ntmps24
   go_wp2_with (first | ((with_reducible refine gate_dst (N := 1) rfl ?_); refine bx_ 1 #[.int .i64 a0_0, .int .i64 a0_1, .int .i64 a0_2] 41 ?_; intro gb101 hg w8 hbox hb; have BK101 := Aside0.mk hbox; have GW101 := gs_ hg; have GE101 := gs_ hg; replace HB := hs_ hb; clear hb hbox hg; obtain ⟨hcz9_0, hcz9_1, hcz9_2, hfz9_0, hfz9_1, hfz9_2⟩ := c3_ BK101.out) | ((with_reducible refine gate_callee (f := 25) rfl ?_); refine goesL_ (some 5) rfl rfl Try.func25 (by kernel_rfl) rfl #[.int .i64 a0_0] rfl ga_ ?_; (with_reducible refine (rate_Right.calls a0_0 true _ A2.out).mono ?_); rintro e w' ⟨rfl, ⟨nd, rfl⟩⟩; refine ⟨_, rfl, ?_⟩) | (go_at_call 25; (with_reducible refine (rate_Right.calls a0_1 false _ A4.out).mono ?_); rintro e w' ⟨rfl, ⟨nd, rfl⟩⟩))
   go_ret
   exact ⟨se_, bl_⟩
 ·replace c3 := Bool.eq_false_iff.mpr c3
  subst c3
  rw [if_neg (show ¬ (false = true) by decide)] at H
  obtain rfl := Option.some.inj H
  go_enter Try.func24, Try.ntmps24
  go_wp2_with (first | ((with_reducible refine gate_dst (N := 1) rfl ?_); refine bx_ 1 #[.int .i64 a0_0, .int .i64 a0_1, .int .i64 a0_2] 41 ?_; intro gb101 hg w10 hbox hb; have BK101 := Aside0.mk hbox; have GW101 := gs_ hg; have GE101 := gs_ hg; replace HB := hs_ hb; clear hb hbox hg; obtain ⟨hcz11_0, hcz11_1, hcz11_2, hfz11_0, hfz11_1, hfz11_2⟩ := c3_ BK101.out) | ((with_reducible refine gate_callee (f := 25) rfl ?_); refine goesL_ (some 5) rfl rfl Try.func25 (by kernel_rfl) rfl #[.int .i64 a0_0] rfl ga_ ?_; (with_reducible refine (rate_Right.calls a0_0 false _ A2.out).mono ?_); rintro e w' ⟨rfl, ⟨nd, rfl⟩⟩; refine ⟨_, rfl, ?_⟩))
  go_ret
  exact ⟨se_, bl_⟩

/-! ### withhold_far_1: function 32 -/
def withhold_far_1.f (a0 : Int) : Option (Bool) := if a0 > 1125899906842624 then (some true) else (some (decide (a0 < (-1125899906842624))))
set_option maxHeartbeats 8000000 in
set_option maxRecDepth 100000 in
theorem withhold_far_1.calls (a0 : Int) (r : Bool) (w : World) (h : withhold_far_1.f a0 = some r) :
    Calls Try.prog 32 #[.int .i64 a0] w fun e w' => e = .returned (.bool r) ∧ Drawn0 w w' := by
 have H : (if a0 > 1125899906842624 then (some true) else (some (decide (a0 < (-1125899906842624))))) = some r := h
 clear h
 by_cases c2 : a0 > 1125899906842624
 ·rw [if_pos c2] at H
  have c2b0 : decide (1125899906842624 < a0) = true := decide_eq_true c2
  clear c2
  obtain rfl := Option.some.inj H
  go_enter Try.func32, Try.ntmps32
  go_wp2
  go_ret
  exact ⟨sm_, dr_⟩
 ·rw [if_neg c2] at H
  have c2b0 : decide (1125899906842624 < a0) = false := decide_eq_false c2
  clear c2
  obtain rfl := Option.some.inj H
  go_enter Try.func32, Try.ntmps32
  go_wp2
  go_ret
  exact ⟨sm_, dr_⟩

/-! ### paymasterlaw14_small: function 9 -/
def paymasterlaw14_small.f (l0_0 : List (S58)) (l0_1 : List (S41)) : Option (Bool) := if (l0_0.length : Int) ≤ 40 then (some (decide ((l0_1.length : Int) ≤ 40))) else (some false)
set_option maxHeartbeats 8000000 in
set_option maxRecDepth 100000 in
theorem paymasterlaw14_small.calls (A0_0 : Option Addr) (c0_0 : Nat) (l0_0 : List (S58)) (A0_1 : Option Addr) (c0_1 : Nat) (l0_1 : List (S41)) (r : Bool) (w : World) (hr0_0 : Kd.C k58 w A0_0 l0_0.length l0_0) (hc0_0 : l0_0.length ≤ c0_0) (hr0_1 : Kd.C k41 w A0_1 l0_1.length l0_1) (hc0_1 : l0_1.length ≤ c0_1) (h : paymasterlaw14_small.f l0_0 l0_1 = some r) :
    Calls Try.prog 9 #[.agg #[.slice A0_0 l0_0.length c0_0, .slice A0_1 l0_1.length c0_1]] w fun e w' => e = .returned (.bool r) ∧ Below w.heap.size w w' := by
 have hu25 := Try.underlying25
 have HR0_0 := Aside0.mk hr0_0
 have HC0_0 := Aside0.mk hc0_0
 clear hr0_0 hc0_0
 have HR0_1 := Aside0.mk hr0_1
 have HC0_1 := Aside0.mk hc0_1
 clear hr0_1 hc0_1
 have HB := Aside0.mk (Below.refl w.heap.size w)
 have H : (if (l0_0.length : Int) ≤ 40 then (some (decide ((l0_1.length : Int) ≤ 40))) else (some false)) = some r := h
 clear h
 by_cases c2 : (l0_0.length : Int) ≤ 40
 ·rw [if_pos c2] at H
  have c2b0 : decide ((l0_0.length : Int) ≤ 40) = true := decide_eq_true c2
  have c2b1 : decide (l0_0.length ≤ 40) = true := decide_eq_true (by omega)
  clear c2
  obtain rfl := Option.some.inj H
  go_enter Try.func9, Try.ntmps9
  go_wp2_with (first | ((with_reducible refine gate_dst (N := 1) rfl ?_); (try (refine gate_guard (by rfl) ?_; dsimp only)); refine bx_ 1 #[.slice A0_0 l0_0.length c0_0, .slice A0_1 l0_1.length c0_1] 25 ?_; intro gb104 hg w3 hbox hb; have BK104 := Aside0.mk hbox; have GW104 := gs_ hg; have GE104 := gs_ hg; replace HB := hs_ hb; clear hb hbox hg; obtain ⟨hcz4_0, hcz4_1, hfz4_0, hfz4_1⟩ := c2_ BK104.out))
  go_ret
  exact ⟨se_, bl_⟩
 ·rw [if_neg c2] at H
  have c2b0 : decide ((l0_0.length : Int) ≤ 40) = false := decide_eq_false c2
  have c2b1 : decide (l0_0.length ≤ 40) = false := decide_eq_false (by omega)
  clear c2
  obtain rfl := Option.some.inj H
  go_enter Try.func9, Try.ntmps9
  go_wp2_with (first | ((with_reducible refine gate_dst (N := 1) rfl ?_); (try (refine gate_guard (by rfl) ?_; dsimp only)); refine bx_ 1 #[.slice A0_0 l0_0.length c0_0, .slice A0_1 l0_1.length c0_1] 25 ?_; intro gb104 hg w5 hbox hb; have BK104 := Aside0.mk hbox; have GW104 := gs_ hg; have GE104 := gs_ hg; replace HB := hs_ hb; clear hb hbox hg; obtain ⟨hcz6_0, hcz6_1, hfz6_0, hfz6_1⟩ := c2_ BK104.out))
  go_ret
  exact ⟨se_, bl_⟩

/-! ### brackets_Right: function 22 -/
def brackets_Right.l0 : Nat → List (S58) → List (S58) → Int → Int → Option (Bool)
  | 0, _, _, _, _ => none
  | k + 1, x0, x5, x6, x7 => if x7 < x6 then (if 0 ≤ x7 then (if x7 < (x5.length : Int) then (if x7 = 0 then (if ((rd_T58 x5 x7).f0) = 0 then (if x7 > 0 then (if 0 ≤ (wrap64 (x7 - 1)) then (if (wrap64 (x7 - 1)) < (x0.length : Int) then (if ((rd_T58 x5 x7).f0) ≤ ((rd_T58 x0 (wrap64 (x7 - 1))).f0) then (some false) else ((rate_Right.f ((rd_T58 x5 x7).f1)).bind fun t108 => (if t108 = true then (brackets_Right.l0 k x0 x5 x6 (wrap64 (x7 + 1))) else (some false)))) else (none)) else (none)) else ((rate_Right.f ((rd_T58 x5 x7).f1)).bind fun t109 => (if t109 = true then (brackets_Right.l0 k x0 x5 x6 (wrap64 (x7 + 1))) else (some false)))) else (some false)) else (if x7 > 0 then (if 0 ≤ (wrap64 (x7 - 1)) then (if (wrap64 (x7 - 1)) < (x0.length : Int) then (if ((rd_T58 x5 x7).f0) ≤ ((rd_T58 x0 (wrap64 (x7 - 1))).f0) then (some false) else ((rate_Right.f ((rd_T58 x5 x7).f1)).bind fun t111 => (if t111 = true then (brackets_Right.l0 k x0 x5 x6 (wrap64 (x7 + 1))) else (some false)))) else (none)) else (none)) else ((rate_Right.f ((rd_T58 x5 x7).f1)).bind fun t112 => (if t112 = true then (brackets_Right.l0 k x0 x5 x6 (wrap64 (x7 + 1))) else (some false))))) else (none)) else (none)) else (if (x0.length : Int) ≥ 1 then (some (decide ((x0.length : Int) ≤ 12))) else (some false))
def brackets_Right.f (k : Nat) (l0 : List (S58)) : Option (Bool) := brackets_Right.l0 k l0 l0 (l0.length : Int) 0
set_option maxHeartbeats 8000000 in
set_option maxRecDepth 100000 in
theorem brackets_Right.calls (k : Nat) (A0 : Option Addr) (c0 : Nat) (l0 : List (S58)) (r : Bool) (w : World) (hr0 : Kd.C k58 w A0 l0.length l0) (hc0 : l0.length ≤ c0) (h : brackets_Right.f k l0 = some r) :
    Calls Try.prog 22 #[.slice A0 l0.length c0] w fun e w' => e = .returned (.bool r) ∧ Below w.heap.size w w' := by
 have hu58 := Try.underlying58
 have HR0 := Aside0.mk hr0
 have HC0 := Aside0.mk hc0
 clear hr0 hc0
 have HB := Aside0.mk (Below.refl w.heap.size w)
 have H : (brackets_Right.l0 k l0 l0 (l0.length : Int) 0) = some r := h
 clear h
 have H' := Aside0.mk H
 clear H
 go_enter Try.func22, Try.ntmps22
 go_wp2
 repeat (go_quiet (fail); try go_wp2)
 go_loopg [7] k (fun kq v7 w' => ∃ (x7_1 : Int), v7 = .int .i64 x7_1 ∧ Aside0 (brackets_Right.l0 kq l0 l0 (l0.length : Int) x7_1 = some r) ∧ Aside0 (kq ≤ k) ∧ Aside0 (Below w.heap.size w w'))
 case atStart => exact ⟨(0), sm_, H', ⟨Nat.le_refl _⟩, ⟨bl_⟩⟩
 case round =>
  clear H'
  obtain ⟨x7_1, rfl, HA, HK1, HB⟩ := hrel
  cases gk with
  | zero => exact absurd HA.out (by simp [brackets_Right.l0])
  | succ k1 =>
   have H := HA.out
   clear HA
   simp only [brackets_Right.l0] at H
   by_cases c2 : x7_1 < (l0.length : Int)
   ·rw [if_pos c2] at H
    have c2b0 : decide (x7_1 < (l0.length : Int)) = true := decide_eq_true c2
    clear c2
    by_cases c3 : 0 ≤ x7_1
    ·rw [if_pos c3] at H
     have c3b0 : decide (0 ≤ x7_1) = true := decide_eq_true c3
     clear c3
     by_cases c4 : x7_1 < (l0.length : Int)
     ·rw [if_pos c4] at H
      have c4b0 : decide (x7_1 < (l0.length : Int)) = true := decide_eq_true c4
      clear c4
      by_cases c5 : x7_1 = 0
      ·rw [if_pos c5] at H
       have c5b0 : (x7_1 == 0) = true := beq_iff_eq.mpr c5
       have c5b1 : (x7_1 != 0) = false := bne_eq_false_iff_eq.mpr c5
       clear c5
       by_cases c6 : ((rd_T58 l0 x7_1).f0) = 0
       ·rw [if_pos c6] at H
        have c6b0 : (((rd_T58 l0 x7_1).f0) == 0) = true := beq_iff_eq.mpr c6
        have c6b1 : (((rd_T58 l0 x7_1).f0) != 0) = false := bne_eq_false_iff_eq.mpr c6
        clear c6
        by_cases c7 : x7_1 > 0
        ·rw [if_pos c7] at H
         have c7b0 : decide (0 < x7_1) = true := decide_eq_true c7
         clear c7
         obtain ⟨ji8, hji8⟩ : ∃ j_ : Int, (wrap64 (x7_1 - 1)) = j_ := ⟨_, rfl⟩
         replace H : (if 0 ≤ (ji8) then (if (ji8) < (l0.length : Int) then (if ((rd_T58 l0 x7_1).f0) ≤ ((rd_T58 l0 (ji8)).f0) then (some false) else ((rate_Right.f ((rd_T58 l0 x7_1).f1)).bind fun t108 => (if t108 = true then (brackets_Right.l0 k1 l0 l0 (l0.length : Int) (wrap64 (x7_1 + 1))) else (some false)))) else (none)) else (none)) = some r := by first | (rw [hji8] at H; exact H) | (simp only [hji8] at H ⊢; exact H)
         have hji8w : (IntKind.i64.wrap (x7_1 - 1)) = ji8 := (i64_w _).trans hji8
         by_cases c9 : 0 ≤ (ji8)
         ·rw [if_pos c9] at H
          have c9b0 : decide (0 ≤ (ji8)) = true := decide_eq_true c9
          clear c9
          by_cases c10 : (ji8) < (l0.length : Int)
          ·rw [if_pos c10] at H
           have c10b0 : decide ((ji8) < (l0.length : Int)) = true := decide_eq_true c10
           clear c10
           by_cases c11 : ((rd_T58 l0 x7_1).f0) ≤ ((rd_T58 l0 (ji8)).f0)
           ·rw [if_pos c11] at H
            have c11b0 : decide (((rd_T58 l0 x7_1).f0) ≤ ((rd_T58 l0 (ji8)).f0)) = true := decide_eq_true c11
            clear c11
            obtain rfl := Option.some.inj H
            have p105 : 0 ≤ (x7_1 : Int) := od_
            have q105 : x7_1 < (l0.length : Int) := od_
            obtain ⟨ad105, e105, hx105_0, hx105_1⟩ := at_T58 HR0.out x7_1 p105 q105
            cases e105
            replace hx105_0 := (HB.out.cell (World.block_lt_of_cell? w _ hx105_0)).trans hx105_0
            replace hx105_1 := (HB.out.cell (World.block_lt_of_cell? w _ hx105_1)).trans hx105_1
            replace p105 := eq_true p105
            replace q105 := eq_true q105
            go_wp2_with (first | ((with_reducible refine gate_dst (N := 4) rfl ?_); (try (refine gate_guard (by rfl) ?_; dsimp only)); refine bx_ 4 #[.int .i64 0, .int .i64 0] 58 ?_; intro gb106 hg w12 hbox hb; have BK106 := Aside0.mk hbox; have GW106 := gs_ hg; have GE106 := gs_ hg; replace HB := hs_ hb; clear hb hbox hg; obtain ⟨hcz13_0, hcz13_1, hfz13_0, hfz13_1⟩ := c2_ BK106.out; have p107 : 0 ≤ ((ji8) : Int) := od_; have q107 : (ji8) < (l0.length : Int) := od_; obtain ⟨ad107, e107, hx107_0, hx107_1⟩ := at_T58 HR0.out (ji8) p107 q107; obtain rfl : ad105 = ad107 := (by injection e107); have hn107_0 : ad105.block ≠ gb106 := Nat.ne_of_lt (Nat.lt_of_lt_of_le (by have := World.block_lt_of_cell? _ _ hx107_0; first | rwa [add_block] at this | exact this) GW106.out); have hn107_1 : ad105.block ≠ gb106 := Nat.ne_of_lt (Nat.lt_of_lt_of_le (by have := World.block_lt_of_cell? _ _ hx107_0; first | rwa [add_block] at this | exact this) GW106.out); replace hx107_0 := (HB.out.cell (World.block_lt_of_cell? w _ hx107_0)).trans hx107_0; replace hx107_1 := (HB.out.cell (World.block_lt_of_cell? w _ hx107_1)).trans hx107_1; replace hx107_0 := (cell_far (p := ⟨gb106, 0, none⟩) (by first | (rw [add_block]; exact hn107_0) | (show (Addr.add _ _).block ≠ _; rw [add_block]; exact hn107_0) | exact hn107_0) (.int .i64 ((rd_T58 l0 x7_1).f0))).trans hx107_0; replace hx107_1 := (cell_far (p := ⟨gb106, 0, none⟩) (by first | (rw [add_block]; exact hn107_0) | (show (Addr.add _ _).block ≠ _; rw [add_block]; exact hn107_0) | exact hn107_0) (.int .i64 ((rd_T58 l0 x7_1).f0))).trans hx107_1; replace hx107_0 := (cell_far (p := ⟨gb106, 1, none⟩) (by first | (rw [add_block]; exact hn107_1) | (show (Addr.add _ _).block ≠ _; rw [add_block]; exact hn107_1) | exact hn107_1) (.int .i64 ((rd_T58 l0 x7_1).f1))).trans hx107_0; replace hx107_1 := (cell_far (p := ⟨gb106, 1, none⟩) (by first | (rw [add_block]; exact hn107_1) | (show (Addr.add _ _).block ≠ _; rw [add_block]; exact hn107_1) | exact hn107_1) (.int .i64 ((rd_T58 l0 x7_1).f1))).trans hx107_1; (try have hy107_0 := fun (n_ : Nat) => (show ((((w12.drewN n_).setCell ⟨gb106, 0, none⟩ (.int .i64 ((rd_T58 l0 x7_1).f0))).setCell ⟨gb106, 1, none⟩ (.int .i64 ((rd_T58 l0 x7_1).f1)))).cell? _ = some _ from hx107_0)); (try have hy107_1 := fun (n_ : Nat) => (show ((((w12.drewN n_).setCell ⟨gb106, 0, none⟩ (.int .i64 ((rd_T58 l0 x7_1).f0))).setCell ⟨gb106, 1, none⟩ (.int .i64 ((rd_T58 l0 x7_1).f1)))).cell? _ = some _ from hx107_1)); clear hn107_0; clear hn107_1; replace p107 := eq_true p107; replace q107 := eq_true q107))
            repeat (go_quiet (first | ((with_reducible refine gate_dst (N := 4) rfl ?_); (try (refine gate_guard (by rfl) ?_; dsimp only)); refine bx_ 4 #[.int .i64 0, .int .i64 0] 58 ?_; intro gb106 hg w12 hbox hb; have BK106 := Aside0.mk hbox; have GW106 := gs_ hg; have GE106 := gs_ hg; replace HB := hs_ hb; clear hb hbox hg; obtain ⟨hcz13_0, hcz13_1, hfz13_0, hfz13_1⟩ := c2_ BK106.out; have p107 : 0 ≤ ((ji8) : Int) := od_; have q107 : (ji8) < (l0.length : Int) := od_; obtain ⟨ad107, e107, hx107_0, hx107_1⟩ := at_T58 HR0.out (ji8) p107 q107; obtain rfl : ad105 = ad107 := (by injection e107); have hn107_0 : ad105.block ≠ gb106 := Nat.ne_of_lt (Nat.lt_of_lt_of_le (by have := World.block_lt_of_cell? _ _ hx107_0; first | rwa [add_block] at this | exact this) GW106.out); have hn107_1 : ad105.block ≠ gb106 := Nat.ne_of_lt (Nat.lt_of_lt_of_le (by have := World.block_lt_of_cell? _ _ hx107_0; first | rwa [add_block] at this | exact this) GW106.out); replace hx107_0 := (HB.out.cell (World.block_lt_of_cell? w _ hx107_0)).trans hx107_0; replace hx107_1 := (HB.out.cell (World.block_lt_of_cell? w _ hx107_1)).trans hx107_1; replace hx107_0 := (cell_far (p := ⟨gb106, 0, none⟩) (by first | (rw [add_block]; exact hn107_0) | (show (Addr.add _ _).block ≠ _; rw [add_block]; exact hn107_0) | exact hn107_0) (.int .i64 ((rd_T58 l0 x7_1).f0))).trans hx107_0; replace hx107_1 := (cell_far (p := ⟨gb106, 0, none⟩) (by first | (rw [add_block]; exact hn107_0) | (show (Addr.add _ _).block ≠ _; rw [add_block]; exact hn107_0) | exact hn107_0) (.int .i64 ((rd_T58 l0 x7_1).f0))).trans hx107_1; replace hx107_0 := (cell_far (p := ⟨gb106, 1, none⟩) (by first | (rw [add_block]; exact hn107_1) | (show (Addr.add _ _).block ≠ _; rw [add_block]; exact hn107_1) | exact hn107_1) (.int .i64 ((rd_T58 l0 x7_1).f1))).trans hx107_0; replace hx107_1 := (cell_far (p := ⟨gb106, 1, none⟩) (by first | (rw [add_block]; exact hn107_1) | (show (Addr.add _ _).block ≠ _; rw [add_block]; exact hn107_1) | exact hn107_1) (.int .i64 ((rd_T58 l0 x7_1).f1))).trans hx107_1; (try have hy107_0 := fun (n_ : Nat) => (show ((((w12.drewN n_).setCell ⟨gb106, 0, none⟩ (.int .i64 ((rd_T58 l0 x7_1).f0))).setCell ⟨gb106, 1, none⟩ (.int .i64 ((rd_T58 l0 x7_1).f1)))).cell? _ = some _ from hx107_0)); (try have hy107_1 := fun (n_ : Nat) => (show ((((w12.drewN n_).setCell ⟨gb106, 0, none⟩ (.int .i64 ((rd_T58 l0 x7_1).f0))).setCell ⟨gb106, 1, none⟩ (.int .i64 ((rd_T58 l0 x7_1).f1)))).cell? _ = some _ from hx107_1)); clear hn107_0; clear hn107_1; replace p107 := eq_true p107; replace q107 := eq_true q107)); try go_wp2_with (first | ((with_reducible refine gate_dst (N := 4) rfl ?_); (try (refine gate_guard (by rfl) ?_; dsimp only)); refine bx_ 4 #[.int .i64 0, .int .i64 0] 58 ?_; intro gb106 hg w12 hbox hb; have BK106 := Aside0.mk hbox; have GW106 := gs_ hg; have GE106 := gs_ hg; replace HB := hs_ hb; clear hb hbox hg; obtain ⟨hcz13_0, hcz13_1, hfz13_0, hfz13_1⟩ := c2_ BK106.out; have p107 : 0 ≤ ((ji8) : Int) := od_; have q107 : (ji8) < (l0.length : Int) := od_; obtain ⟨ad107, e107, hx107_0, hx107_1⟩ := at_T58 HR0.out (ji8) p107 q107; obtain rfl : ad105 = ad107 := (by injection e107); have hn107_0 : ad105.block ≠ gb106 := Nat.ne_of_lt (Nat.lt_of_lt_of_le (by have := World.block_lt_of_cell? _ _ hx107_0; first | rwa [add_block] at this | exact this) GW106.out); have hn107_1 : ad105.block ≠ gb106 := Nat.ne_of_lt (Nat.lt_of_lt_of_le (by have := World.block_lt_of_cell? _ _ hx107_0; first | rwa [add_block] at this | exact this) GW106.out); replace hx107_0 := (HB.out.cell (World.block_lt_of_cell? w _ hx107_0)).trans hx107_0; replace hx107_1 := (HB.out.cell (World.block_lt_of_cell? w _ hx107_1)).trans hx107_1; replace hx107_0 := (cell_far (p := ⟨gb106, 0, none⟩) (by first | (rw [add_block]; exact hn107_0) | (show (Addr.add _ _).block ≠ _; rw [add_block]; exact hn107_0) | exact hn107_0) (.int .i64 ((rd_T58 l0 x7_1).f0))).trans hx107_0; replace hx107_1 := (cell_far (p := ⟨gb106, 0, none⟩) (by first | (rw [add_block]; exact hn107_0) | (show (Addr.add _ _).block ≠ _; rw [add_block]; exact hn107_0) | exact hn107_0) (.int .i64 ((rd_T58 l0 x7_1).f0))).trans hx107_1; replace hx107_0 := (cell_far (p := ⟨gb106, 1, none⟩) (by first | (rw [add_block]; exact hn107_1) | (show (Addr.add _ _).block ≠ _; rw [add_block]; exact hn107_1) | exact hn107_1) (.int .i64 ((rd_T58 l0 x7_1).f1))).trans hx107_0; replace hx107_1 := (cell_far (p := ⟨gb106, 1, none⟩) (by first | (rw [add_block]; exact hn107_1) | (show (Addr.add _ _).block ≠ _; rw [add_block]; exact hn107_1) | exact hn107_1) (.int .i64 ((rd_T58 l0 x7_1).f1))).trans hx107_1; (try have hy107_0 := fun (n_ : Nat) => (show ((((w12.drewN n_).setCell ⟨gb106, 0, none⟩ (.int .i64 ((rd_T58 l0 x7_1).f0))).setCell ⟨gb106, 1, none⟩ (.int .i64 ((rd_T58 l0 x7_1).f1)))).cell? _ = some _ from hx107_0)); (try have hy107_1 := fun (n_ : Nat) => (show ((((w12.drewN n_).setCell ⟨gb106, 0, none⟩ (.int .i64 ((rd_T58 l0 x7_1).f0))).setCell ⟨gb106, 1, none⟩ (.int .i64 ((rd_T58 l0 x7_1).f1)))).cell? _ = some _ from hx107_1)); clear hn107_0; clear hn107_1; replace p107 := eq_true p107; replace q107 := eq_true q107)))
            go_ret
            exact ⟨by first | rfl | (simp [errW_none, errW_some] <;> rfl) | (simp only [← hji8]; first | rfl | (simp [errW_none, errW_some] <;> rfl)) | (simp [*, errW_none, errW_some] <;> rfl), bl_⟩
           ·rw [if_neg c11] at H
            have c11b0 : decide (((rd_T58 l0 x7_1).f0) ≤ ((rd_T58 l0 (ji8)).f0)) = false := decide_eq_false c11
            clear c11
            replace H := Option.bind_eq_some_iff.mp H
            obtain ⟨t108, A140, H⟩ := H
            (try dsimp only at H)
            have A14 := Aside0.mk A140
            clear A140
            by_cases c15 : t108 = true
            ·subst c15
             rw [if_pos rfl] at H
             have H' := Aside0.mk H
             clear H
             have p105 : 0 ≤ (x7_1 : Int) := od_
             have q105 : x7_1 < (l0.length : Int) := od_
             obtain ⟨ad105, e105, hx105_0, hx105_1⟩ := at_T58 HR0.out x7_1 p105 q105
             cases e105
             replace hx105_0 := (HB.out.cell (World.block_lt_of_cell? w _ hx105_0)).trans hx105_0
             replace hx105_1 := (HB.out.cell (World.block_lt_of_cell? w _ hx105_1)).trans hx105_1
             replace p105 := eq_true p105
             replace q105 := eq_true q105
             go_wp2_with (first | ((with_reducible refine gate_dst (N := 4) rfl ?_); (try (refine gate_guard (by rfl) ?_; dsimp only)); refine bx_ 4 #[.int .i64 0, .int .i64 0] 58 ?_; intro gb106 hg w16 hbox hb; have BK106 := Aside0.mk hbox; have GW106 := gs_ hg; have GE106 := gs_ hg; replace HB := hs_ hb; clear hb hbox hg; obtain ⟨hcz17_0, hcz17_1, hfz17_0, hfz17_1⟩ := c2_ BK106.out; have p107 : 0 ≤ ((ji8) : Int) := od_; have q107 : (ji8) < (l0.length : Int) := od_; obtain ⟨ad107, e107, hx107_0, hx107_1⟩ := at_T58 HR0.out (ji8) p107 q107; obtain rfl : ad105 = ad107 := (by injection e107); have hn107_0 : ad105.block ≠ gb106 := Nat.ne_of_lt (Nat.lt_of_lt_of_le (by have := World.block_lt_of_cell? _ _ hx107_0; first | rwa [add_block] at this | exact this) GW106.out); have hn107_1 : ad105.block ≠ gb106 := Nat.ne_of_lt (Nat.lt_of_lt_of_le (by have := World.block_lt_of_cell? _ _ hx107_0; first | rwa [add_block] at this | exact this) GW106.out); replace hx107_0 := (HB.out.cell (World.block_lt_of_cell? w _ hx107_0)).trans hx107_0; replace hx107_1 := (HB.out.cell (World.block_lt_of_cell? w _ hx107_1)).trans hx107_1; replace hx107_0 := (cell_far (p := ⟨gb106, 0, none⟩) (by first | (rw [add_block]; exact hn107_0) | (show (Addr.add _ _).block ≠ _; rw [add_block]; exact hn107_0) | exact hn107_0) (.int .i64 ((rd_T58 l0 x7_1).f0))).trans hx107_0; replace hx107_1 := (cell_far (p := ⟨gb106, 0, none⟩) (by first | (rw [add_block]; exact hn107_0) | (show (Addr.add _ _).block ≠ _; rw [add_block]; exact hn107_0) | exact hn107_0) (.int .i64 ((rd_T58 l0 x7_1).f0))).trans hx107_1; replace hx107_0 := (cell_far (p := ⟨gb106, 1, none⟩) (by first | (rw [add_block]; exact hn107_1) | (show (Addr.add _ _).block ≠ _; rw [add_block]; exact hn107_1) | exact hn107_1) (.int .i64 ((rd_T58 l0 x7_1).f1))).trans hx107_0; replace hx107_1 := (cell_far (p := ⟨gb106, 1, none⟩) (by first | (rw [add_block]; exact hn107_1) | (show (Addr.add _ _).block ≠ _; rw [add_block]; exact hn107_1) | exact hn107_1) (.int .i64 ((rd_T58 l0 x7_1).f1))).trans hx107_1; (try have hy107_0 := fun (n_ : Nat) => (show ((((w16.drewN n_).setCell ⟨gb106, 0, none⟩ (.int .i64 ((rd_T58 l0 x7_1).f0))).setCell ⟨gb106, 1, none⟩ (.int .i64 ((rd_T58 l0 x7_1).f1)))).cell? _ = some _ from hx107_0)); (try have hy107_1 := fun (n_ : Nat) => (show ((((w16.drewN n_).setCell ⟨gb106, 0, none⟩ (.int .i64 ((rd_T58 l0 x7_1).f0))).setCell ⟨gb106, 1, none⟩ (.int .i64 ((rd_T58 l0 x7_1).f1)))).cell? _ = some _ from hx107_1)); clear hn107_0; clear hn107_1; replace p107 := eq_true p107; replace q107 := eq_true q107) | (go_at_call 25; (with_reducible refine (rate_Right.calls ((rd_T58 l0 x7_1).f1) true _ A14.out).mono ?_); rintro e w' ⟨rfl, ⟨nd, rfl⟩⟩; (try first | exact ⟨rfl, _, World.drewN_drewN _ _ _⟩ | exact ⟨rfl, _, Eq.trans (World.drewN_drewN _ _ _) (congrArg (World.drewN _) (Nat.add_assoc _ _ _))⟩)))
             repeat (go_quiet (first | ((with_reducible refine gate_dst (N := 4) rfl ?_); (try (refine gate_guard (by rfl) ?_; dsimp only)); refine bx_ 4 #[.int .i64 0, .int .i64 0] 58 ?_; intro gb106 hg w16 hbox hb; have BK106 := Aside0.mk hbox; have GW106 := gs_ hg; have GE106 := gs_ hg; replace HB := hs_ hb; clear hb hbox hg; obtain ⟨hcz17_0, hcz17_1, hfz17_0, hfz17_1⟩ := c2_ BK106.out; have p107 : 0 ≤ ((ji8) : Int) := od_; have q107 : (ji8) < (l0.length : Int) := od_; obtain ⟨ad107, e107, hx107_0, hx107_1⟩ := at_T58 HR0.out (ji8) p107 q107; obtain rfl : ad105 = ad107 := (by injection e107); have hn107_0 : ad105.block ≠ gb106 := Nat.ne_of_lt (Nat.lt_of_lt_of_le (by have := World.block_lt_of_cell? _ _ hx107_0; first | rwa [add_block] at this | exact this) GW106.out); have hn107_1 : ad105.block ≠ gb106 := Nat.ne_of_lt (Nat.lt_of_lt_of_le (by have := World.block_lt_of_cell? _ _ hx107_0; first | rwa [add_block] at this | exact this) GW106.out); replace hx107_0 := (HB.out.cell (World.block_lt_of_cell? w _ hx107_0)).trans hx107_0; replace hx107_1 := (HB.out.cell (World.block_lt_of_cell? w _ hx107_1)).trans hx107_1; replace hx107_0 := (cell_far (p := ⟨gb106, 0, none⟩) (by first | (rw [add_block]; exact hn107_0) | (show (Addr.add _ _).block ≠ _; rw [add_block]; exact hn107_0) | exact hn107_0) (.int .i64 ((rd_T58 l0 x7_1).f0))).trans hx107_0; replace hx107_1 := (cell_far (p := ⟨gb106, 0, none⟩) (by first | (rw [add_block]; exact hn107_0) | (show (Addr.add _ _).block ≠ _; rw [add_block]; exact hn107_0) | exact hn107_0) (.int .i64 ((rd_T58 l0 x7_1).f0))).trans hx107_1; replace hx107_0 := (cell_far (p := ⟨gb106, 1, none⟩) (by first | (rw [add_block]; exact hn107_1) | (show (Addr.add _ _).block ≠ _; rw [add_block]; exact hn107_1) | exact hn107_1) (.int .i64 ((rd_T58 l0 x7_1).f1))).trans hx107_0; replace hx107_1 := (cell_far (p := ⟨gb106, 1, none⟩) (by first | (rw [add_block]; exact hn107_1) | (show (Addr.add _ _).block ≠ _; rw [add_block]; exact hn107_1) | exact hn107_1) (.int .i64 ((rd_T58 l0 x7_1).f1))).trans hx107_1; (try have hy107_0 := fun (n_ : Nat) => (show ((((w16.drewN n_).setCell ⟨gb106, 0, none⟩ (.int .i64 ((rd_T58 l0 x7_1).f0))).setCell ⟨gb106, 1, none⟩ (.int .i64 ((rd_T58 l0 x7_1).f1)))).cell? _ = some _ from hx107_0)); (try have hy107_1 := fun (n_ : Nat) => (show ((((w16.drewN n_).setCell ⟨gb106, 0, none⟩ (.int .i64 ((rd_T58 l0 x7_1).f0))).setCell ⟨gb106, 1, none⟩ (.int .i64 ((rd_T58 l0 x7_1).f1)))).cell? _ = some _ from hx107_1)); clear hn107_0; clear hn107_1; replace p107 := eq_true p107; replace q107 := eq_true q107) | (go_at_call 25; (with_reducible refine (rate_Right.calls ((rd_T58 l0 x7_1).f1) true _ A14.out).mono ?_); rintro e w' ⟨rfl, ⟨nd, rfl⟩⟩; (try first | exact ⟨rfl, _, World.drewN_drewN _ _ _⟩ | exact ⟨rfl, _, Eq.trans (World.drewN_drewN _ _ _) (congrArg (World.drewN _) (Nat.add_assoc _ _ _))⟩))); try go_wp2_with (first | ((with_reducible refine gate_dst (N := 4) rfl ?_); (try (refine gate_guard (by rfl) ?_; dsimp only)); refine bx_ 4 #[.int .i64 0, .int .i64 0] 58 ?_; intro gb106 hg w16 hbox hb; have BK106 := Aside0.mk hbox; have GW106 := gs_ hg; have GE106 := gs_ hg; replace HB := hs_ hb; clear hb hbox hg; obtain ⟨hcz17_0, hcz17_1, hfz17_0, hfz17_1⟩ := c2_ BK106.out; have p107 : 0 ≤ ((ji8) : Int) := od_; have q107 : (ji8) < (l0.length : Int) := od_; obtain ⟨ad107, e107, hx107_0, hx107_1⟩ := at_T58 HR0.out (ji8) p107 q107; obtain rfl : ad105 = ad107 := (by injection e107); have hn107_0 : ad105.block ≠ gb106 := Nat.ne_of_lt (Nat.lt_of_lt_of_le (by have := World.block_lt_of_cell? _ _ hx107_0; first | rwa [add_block] at this | exact this) GW106.out); have hn107_1 : ad105.block ≠ gb106 := Nat.ne_of_lt (Nat.lt_of_lt_of_le (by have := World.block_lt_of_cell? _ _ hx107_0; first | rwa [add_block] at this | exact this) GW106.out); replace hx107_0 := (HB.out.cell (World.block_lt_of_cell? w _ hx107_0)).trans hx107_0; replace hx107_1 := (HB.out.cell (World.block_lt_of_cell? w _ hx107_1)).trans hx107_1; replace hx107_0 := (cell_far (p := ⟨gb106, 0, none⟩) (by first | (rw [add_block]; exact hn107_0) | (show (Addr.add _ _).block ≠ _; rw [add_block]; exact hn107_0) | exact hn107_0) (.int .i64 ((rd_T58 l0 x7_1).f0))).trans hx107_0; replace hx107_1 := (cell_far (p := ⟨gb106, 0, none⟩) (by first | (rw [add_block]; exact hn107_0) | (show (Addr.add _ _).block ≠ _; rw [add_block]; exact hn107_0) | exact hn107_0) (.int .i64 ((rd_T58 l0 x7_1).f0))).trans hx107_1; replace hx107_0 := (cell_far (p := ⟨gb106, 1, none⟩) (by first | (rw [add_block]; exact hn107_1) | (show (Addr.add _ _).block ≠ _; rw [add_block]; exact hn107_1) | exact hn107_1) (.int .i64 ((rd_T58 l0 x7_1).f1))).trans hx107_0; replace hx107_1 := (cell_far (p := ⟨gb106, 1, none⟩) (by first | (rw [add_block]; exact hn107_1) | (show (Addr.add _ _).block ≠ _; rw [add_block]; exact hn107_1) | exact hn107_1) (.int .i64 ((rd_T58 l0 x7_1).f1))).trans hx107_1; (try have hy107_0 := fun (n_ : Nat) => (show ((((w16.drewN n_).setCell ⟨gb106, 0, none⟩ (.int .i64 ((rd_T58 l0 x7_1).f0))).setCell ⟨gb106, 1, none⟩ (.int .i64 ((rd_T58 l0 x7_1).f1)))).cell? _ = some _ from hx107_0)); (try have hy107_1 := fun (n_ : Nat) => (show ((((w16.drewN n_).setCell ⟨gb106, 0, none⟩ (.int .i64 ((rd_T58 l0 x7_1).f0))).setCell ⟨gb106, 1, none⟩ (.int .i64 ((rd_T58 l0 x7_1).f1)))).cell? _ = some _ from hx107_1)); clear hn107_0; clear hn107_1; replace p107 := eq_true p107; replace q107 := eq_true q107) | (go_at_call 25; (with_reducible refine (rate_Right.calls ((rd_T58 l0 x7_1).f1) true _ A14.out).mono ?_); rintro e w' ⟨rfl, ⟨nd, rfl⟩⟩; (try first | exact ⟨rfl, _, World.drewN_drewN _ _ _⟩ | exact ⟨rfl, _, Eq.trans (World.drewN_drewN _ _ _) (congrArg (World.drewN _) (Nat.add_assoc _ _ _))⟩))))
             go_roundg k1
             case measure => have := HK1.out; omega
             case rel => exact ⟨(wrap64 (x7_1 + 1)), sm_, H', ⟨by have := HK1.out; omega⟩, ⟨bl_⟩⟩
            ·replace c15 := Bool.eq_false_iff.mpr c15
             subst c15
             rw [if_neg (show ¬ (false = true) by decide)] at H
             obtain rfl := Option.some.inj H
             have p105 : 0 ≤ (x7_1 : Int) := od_
             have q105 : x7_1 < (l0.length : Int) := od_
             obtain ⟨ad105, e105, hx105_0, hx105_1⟩ := at_T58 HR0.out x7_1 p105 q105
             cases e105
             replace hx105_0 := (HB.out.cell (World.block_lt_of_cell? w _ hx105_0)).trans hx105_0
             replace hx105_1 := (HB.out.cell (World.block_lt_of_cell? w _ hx105_1)).trans hx105_1
             replace p105 := eq_true p105
             replace q105 := eq_true q105
             go_wp2_with (first | ((with_reducible refine gate_dst (N := 4) rfl ?_); (try (refine gate_guard (by rfl) ?_; dsimp only)); refine bx_ 4 #[.int .i64 0, .int .i64 0] 58 ?_; intro gb106 hg w18 hbox hb; have BK106 := Aside0.mk hbox; have GW106 := gs_ hg; have GE106 := gs_ hg; replace HB := hs_ hb; clear hb hbox hg; obtain ⟨hcz19_0, hcz19_1, hfz19_0, hfz19_1⟩ := c2_ BK106.out; have p107 : 0 ≤ ((ji8) : Int) := od_; have q107 : (ji8) < (l0.length : Int) := od_; obtain ⟨ad107, e107, hx107_0, hx107_1⟩ := at_T58 HR0.out (ji8) p107 q107; obtain rfl : ad105 = ad107 := (by injection e107); have hn107_0 : ad105.block ≠ gb106 := Nat.ne_of_lt (Nat.lt_of_lt_of_le (by have := World.block_lt_of_cell? _ _ hx107_0; first | rwa [add_block] at this | exact this) GW106.out); have hn107_1 : ad105.block ≠ gb106 := Nat.ne_of_lt (Nat.lt_of_lt_of_le (by have := World.block_lt_of_cell? _ _ hx107_0; first | rwa [add_block] at this | exact this) GW106.out); replace hx107_0 := (HB.out.cell (World.block_lt_of_cell? w _ hx107_0)).trans hx107_0; replace hx107_1 := (HB.out.cell (World.block_lt_of_cell? w _ hx107_1)).trans hx107_1; replace hx107_0 := (cell_far (p := ⟨gb106, 0, none⟩) (by first | (rw [add_block]; exact hn107_0) | (show (Addr.add _ _).block ≠ _; rw [add_block]; exact hn107_0) | exact hn107_0) (.int .i64 ((rd_T58 l0 x7_1).f0))).trans hx107_0; replace hx107_1 := (cell_far (p := ⟨gb106, 0, none⟩) (by first | (rw [add_block]; exact hn107_0) | (show (Addr.add _ _).block ≠ _; rw [add_block]; exact hn107_0) | exact hn107_0) (.int .i64 ((rd_T58 l0 x7_1).f0))).trans hx107_1; replace hx107_0 := (cell_far (p := ⟨gb106, 1, none⟩) (by first | (rw [add_block]; exact hn107_1) | (show (Addr.add _ _).block ≠ _; rw [add_block]; exact hn107_1) | exact hn107_1) (.int .i64 ((rd_T58 l0 x7_1).f1))).trans hx107_0; replace hx107_1 := (cell_far (p := ⟨gb106, 1, none⟩) (by first | (rw [add_block]; exact hn107_1) | (show (Addr.add _ _).block ≠ _; rw [add_block]; exact hn107_1) | exact hn107_1) (.int .i64 ((rd_T58 l0 x7_1).f1))).trans hx107_1; (try have hy107_0 := fun (n_ : Nat) => (show ((((w18.drewN n_).setCell ⟨gb106, 0, none⟩ (.int .i64 ((rd_T58 l0 x7_1).f0))).setCell ⟨gb106, 1, none⟩ (.int .i64 ((rd_T58 l0 x7_1).f1)))).cell? _ = some _ from hx107_0)); (try have hy107_1 := fun (n_ : Nat) => (show ((((w18.drewN n_).setCell ⟨gb106, 0, none⟩ (.int .i64 ((rd_T58 l0 x7_1).f0))).setCell ⟨gb106, 1, none⟩ (.int .i64 ((rd_T58 l0 x7_1).f1)))).cell? _ = some _ from hx107_1)); clear hn107_0; clear hn107_1; replace p107 := eq_true p107; replace q107 := eq_true q107) | (go_at_call 25; (with_reducible refine (rate_Right.calls ((rd_T58 l0 x7_1).f1) false _ A14.out).mono ?_); rintro e w' ⟨rfl, ⟨nd, rfl⟩⟩; (try first | exact ⟨rfl, _, World.drewN_drewN _ _ _⟩ | exact ⟨rfl, _, Eq.trans (World.drewN_drewN _ _ _) (congrArg (World.drewN _) (Nat.add_assoc _ _ _))⟩)))
             repeat (go_quiet (first | ((with_reducible refine gate_dst (N := 4) rfl ?_); (try (refine gate_guard (by rfl) ?_; dsimp only)); refine bx_ 4 #[.int .i64 0, .int .i64 0] 58 ?_; intro gb106 hg w18 hbox hb; have BK106 := Aside0.mk hbox; have GW106 := gs_ hg; have GE106 := gs_ hg; replace HB := hs_ hb; clear hb hbox hg; obtain ⟨hcz19_0, hcz19_1, hfz19_0, hfz19_1⟩ := c2_ BK106.out; have p107 : 0 ≤ ((ji8) : Int) := od_; have q107 : (ji8) < (l0.length : Int) := od_; obtain ⟨ad107, e107, hx107_0, hx107_1⟩ := at_T58 HR0.out (ji8) p107 q107; obtain rfl : ad105 = ad107 := (by injection e107); have hn107_0 : ad105.block ≠ gb106 := Nat.ne_of_lt (Nat.lt_of_lt_of_le (by have := World.block_lt_of_cell? _ _ hx107_0; first | rwa [add_block] at this | exact this) GW106.out); have hn107_1 : ad105.block ≠ gb106 := Nat.ne_of_lt (Nat.lt_of_lt_of_le (by have := World.block_lt_of_cell? _ _ hx107_0; first | rwa [add_block] at this | exact this) GW106.out); replace hx107_0 := (HB.out.cell (World.block_lt_of_cell? w _ hx107_0)).trans hx107_0; replace hx107_1 := (HB.out.cell (World.block_lt_of_cell? w _ hx107_1)).trans hx107_1; replace hx107_0 := (cell_far (p := ⟨gb106, 0, none⟩) (by first | (rw [add_block]; exact hn107_0) | (show (Addr.add _ _).block ≠ _; rw [add_block]; exact hn107_0) | exact hn107_0) (.int .i64 ((rd_T58 l0 x7_1).f0))).trans hx107_0; replace hx107_1 := (cell_far (p := ⟨gb106, 0, none⟩) (by first | (rw [add_block]; exact hn107_0) | (show (Addr.add _ _).block ≠ _; rw [add_block]; exact hn107_0) | exact hn107_0) (.int .i64 ((rd_T58 l0 x7_1).f0))).trans hx107_1; replace hx107_0 := (cell_far (p := ⟨gb106, 1, none⟩) (by first | (rw [add_block]; exact hn107_1) | (show (Addr.add _ _).block ≠ _; rw [add_block]; exact hn107_1) | exact hn107_1) (.int .i64 ((rd_T58 l0 x7_1).f1))).trans hx107_0; replace hx107_1 := (cell_far (p := ⟨gb106, 1, none⟩) (by first | (rw [add_block]; exact hn107_1) | (show (Addr.add _ _).block ≠ _; rw [add_block]; exact hn107_1) | exact hn107_1) (.int .i64 ((rd_T58 l0 x7_1).f1))).trans hx107_1; (try have hy107_0 := fun (n_ : Nat) => (show ((((w18.drewN n_).setCell ⟨gb106, 0, none⟩ (.int .i64 ((rd_T58 l0 x7_1).f0))).setCell ⟨gb106, 1, none⟩ (.int .i64 ((rd_T58 l0 x7_1).f1)))).cell? _ = some _ from hx107_0)); (try have hy107_1 := fun (n_ : Nat) => (show ((((w18.drewN n_).setCell ⟨gb106, 0, none⟩ (.int .i64 ((rd_T58 l0 x7_1).f0))).setCell ⟨gb106, 1, none⟩ (.int .i64 ((rd_T58 l0 x7_1).f1)))).cell? _ = some _ from hx107_1)); clear hn107_0; clear hn107_1; replace p107 := eq_true p107; replace q107 := eq_true q107) | (go_at_call 25; (with_reducible refine (rate_Right.calls ((rd_T58 l0 x7_1).f1) false _ A14.out).mono ?_); rintro e w' ⟨rfl, ⟨nd, rfl⟩⟩; (try first | exact ⟨rfl, _, World.drewN_drewN _ _ _⟩ | exact ⟨rfl, _, Eq.trans (World.drewN_drewN _ _ _) (congrArg (World.drewN _) (Nat.add_assoc _ _ _))⟩))); try go_wp2_with (first | ((with_reducible refine gate_dst (N := 4) rfl ?_); (try (refine gate_guard (by rfl) ?_; dsimp only)); refine bx_ 4 #[.int .i64 0, .int .i64 0] 58 ?_; intro gb106 hg w18 hbox hb; have BK106 := Aside0.mk hbox; have GW106 := gs_ hg; have GE106 := gs_ hg; replace HB := hs_ hb; clear hb hbox hg; obtain ⟨hcz19_0, hcz19_1, hfz19_0, hfz19_1⟩ := c2_ BK106.out; have p107 : 0 ≤ ((ji8) : Int) := od_; have q107 : (ji8) < (l0.length : Int) := od_; obtain ⟨ad107, e107, hx107_0, hx107_1⟩ := at_T58 HR0.out (ji8) p107 q107; obtain rfl : ad105 = ad107 := (by injection e107); have hn107_0 : ad105.block ≠ gb106 := Nat.ne_of_lt (Nat.lt_of_lt_of_le (by have := World.block_lt_of_cell? _ _ hx107_0; first | rwa [add_block] at this | exact this) GW106.out); have hn107_1 : ad105.block ≠ gb106 := Nat.ne_of_lt (Nat.lt_of_lt_of_le (by have := World.block_lt_of_cell? _ _ hx107_0; first | rwa [add_block] at this | exact this) GW106.out); replace hx107_0 := (HB.out.cell (World.block_lt_of_cell? w _ hx107_0)).trans hx107_0; replace hx107_1 := (HB.out.cell (World.block_lt_of_cell? w _ hx107_1)).trans hx107_1; replace hx107_0 := (cell_far (p := ⟨gb106, 0, none⟩) (by first | (rw [add_block]; exact hn107_0) | (show (Addr.add _ _).block ≠ _; rw [add_block]; exact hn107_0) | exact hn107_0) (.int .i64 ((rd_T58 l0 x7_1).f0))).trans hx107_0; replace hx107_1 := (cell_far (p := ⟨gb106, 0, none⟩) (by first | (rw [add_block]; exact hn107_0) | (show (Addr.add _ _).block ≠ _; rw [add_block]; exact hn107_0) | exact hn107_0) (.int .i64 ((rd_T58 l0 x7_1).f0))).trans hx107_1; replace hx107_0 := (cell_far (p := ⟨gb106, 1, none⟩) (by first | (rw [add_block]; exact hn107_1) | (show (Addr.add _ _).block ≠ _; rw [add_block]; exact hn107_1) | exact hn107_1) (.int .i64 ((rd_T58 l0 x7_1).f1))).trans hx107_0; replace hx107_1 := (cell_far (p := ⟨gb106, 1, none⟩) (by first | (rw [add_block]; exact hn107_1) | (show (Addr.add _ _).block ≠ _; rw [add_block]; exact hn107_1) | exact hn107_1) (.int .i64 ((rd_T58 l0 x7_1).f1))).trans hx107_1; (try have hy107_0 := fun (n_ : Nat) => (show ((((w18.drewN n_).setCell ⟨gb106, 0, none⟩ (.int .i64 ((rd_T58 l0 x7_1).f0))).setCell ⟨gb106, 1, none⟩ (.int .i64 ((rd_T58 l0 x7_1).f1)))).cell? _ = some _ from hx107_0)); (try have hy107_1 := fun (n_ : Nat) => (show ((((w18.drewN n_).setCell ⟨gb106, 0, none⟩ (.int .i64 ((rd_T58 l0 x7_1).f0))).setCell ⟨gb106, 1, none⟩ (.int .i64 ((rd_T58 l0 x7_1).f1)))).cell? _ = some _ from hx107_1)); clear hn107_0; clear hn107_1; replace p107 := eq_true p107; replace q107 := eq_true q107) | (go_at_call 25; (with_reducible refine (rate_Right.calls ((rd_T58 l0 x7_1).f1) false _ A14.out).mono ?_); rintro e w' ⟨rfl, ⟨nd, rfl⟩⟩; (try first | exact ⟨rfl, _, World.drewN_drewN _ _ _⟩ | exact ⟨rfl, _, Eq.trans (World.drewN_drewN _ _ _) (congrArg (World.drewN _) (Nat.add_assoc _ _ _))⟩))))
             go_ret
             exact ⟨by first | rfl | (simp [errW_none, errW_some] <;> rfl) | (simp only [← hji8]; first | rfl | (simp [errW_none, errW_some] <;> rfl)) | (simp [*, errW_none, errW_some] <;> rfl), bl_⟩
          ·rw [if_neg c10] at H
           exact absurd H (by simp)
         ·rw [if_neg c9] at H
          exact absurd H (by simp)
        ·rw [if_neg c7] at H
         have c7b0 : decide (0 < x7_1) = false := decide_eq_false c7
         clear c7
         replace H := Option.bind_eq_some_iff.mp H
         obtain ⟨t109, A200, H⟩ := H
         (try dsimp only at H)
         have A20 := Aside0.mk A200
         clear A200
         by_cases c21 : t109 = true
         ·subst c21
          rw [if_pos rfl] at H
          have H' := Aside0.mk H
          clear H
          have p105 : 0 ≤ (x7_1 : Int) := od_
          have q105 : x7_1 < (l0.length : Int) := od_
          obtain ⟨ad105, e105, hx105_0, hx105_1⟩ := at_T58 HR0.out x7_1 p105 q105
          cases e105
          replace hx105_0 := (HB.out.cell (World.block_lt_of_cell? w _ hx105_0)).trans hx105_0
          replace hx105_1 := (HB.out.cell (World.block_lt_of_cell? w _ hx105_1)).trans hx105_1
          replace p105 := eq_true p105
          replace q105 := eq_true q105
          go_wp2_with (first | ((with_reducible refine gate_dst (N := 4) rfl ?_); (try (refine gate_guard (by rfl) ?_; dsimp only)); refine bx_ 4 #[.int .i64 0, .int .i64 0] 58 ?_; intro gb106 hg w22 hbox hb; have BK106 := Aside0.mk hbox; have GW106 := gs_ hg; have GE106 := gs_ hg; replace HB := hs_ hb; clear hb hbox hg; obtain ⟨hcz23_0, hcz23_1, hfz23_0, hfz23_1⟩ := c2_ BK106.out) | (go_at_call 25; (with_reducible refine (rate_Right.calls ((rd_T58 l0 x7_1).f1) true _ A20.out).mono ?_); rintro e w' ⟨rfl, ⟨nd, rfl⟩⟩; (try first | exact ⟨rfl, _, World.drewN_drewN _ _ _⟩ | exact ⟨rfl, _, Eq.trans (World.drewN_drewN _ _ _) (congrArg (World.drewN _) (Nat.add_assoc _ _ _))⟩)))
          repeat (go_quiet (first | ((with_reducible refine gate_dst (N := 4) rfl ?_); (try (refine gate_guard (by rfl) ?_; dsimp only)); refine bx_ 4 #[.int .i64 0, .int .i64 0] 58 ?_; intro gb106 hg w22 hbox hb; have BK106 := Aside0.mk hbox; have GW106 := gs_ hg; have GE106 := gs_ hg; replace HB := hs_ hb; clear hb hbox hg; obtain ⟨hcz23_0, hcz23_1, hfz23_0, hfz23_1⟩ := c2_ BK106.out) | (go_at_call 25; (with_reducible refine (rate_Right.calls ((rd_T58 l0 x7_1).f1) true _ A20.out).mono ?_); rintro e w' ⟨rfl, ⟨nd, rfl⟩⟩; (try first | exact ⟨rfl, _, World.drewN_drewN _ _ _⟩ | exact ⟨rfl, _, Eq.trans (World.drewN_drewN _ _ _) (congrArg (World.drewN _) (Nat.add_assoc _ _ _))⟩))); try go_wp2_with (first | ((with_reducible refine gate_dst (N := 4) rfl ?_); (try (refine gate_guard (by rfl) ?_; dsimp only)); refine bx_ 4 #[.int .i64 0, .int .i64 0] 58 ?_; intro gb106 hg w22 hbox hb; have BK106 := Aside0.mk hbox; have GW106 := gs_ hg; have GE106 := gs_ hg; replace HB := hs_ hb; clear hb hbox hg; obtain ⟨hcz23_0, hcz23_1, hfz23_0, hfz23_1⟩ := c2_ BK106.out) | (go_at_call 25; (with_reducible refine (rate_Right.calls ((rd_T58 l0 x7_1).f1) true _ A20.out).mono ?_); rintro e w' ⟨rfl, ⟨nd, rfl⟩⟩; (try first | exact ⟨rfl, _, World.drewN_drewN _ _ _⟩ | exact ⟨rfl, _, Eq.trans (World.drewN_drewN _ _ _) (congrArg (World.drewN _) (Nat.add_assoc _ _ _))⟩))))
          go_roundg k1
          case measure => have := HK1.out; omega
          case rel => exact ⟨(wrap64 (x7_1 + 1)), sm_, H', ⟨by have := HK1.out; omega⟩, ⟨bl_⟩⟩
         ·replace c21 := Bool.eq_false_iff.mpr c21
          subst c21
          rw [if_neg (show ¬ (false = true) by decide)] at H
          obtain rfl := Option.some.inj H
          have p105 : 0 ≤ (x7_1 : Int) := od_
          have q105 : x7_1 < (l0.length : Int) := od_
          obtain ⟨ad105, e105, hx105_0, hx105_1⟩ := at_T58 HR0.out x7_1 p105 q105
          cases e105
          replace hx105_0 := (HB.out.cell (World.block_lt_of_cell? w _ hx105_0)).trans hx105_0
          replace hx105_1 := (HB.out.cell (World.block_lt_of_cell? w _ hx105_1)).trans hx105_1
          replace p105 := eq_true p105
          replace q105 := eq_true q105
          go_wp2_with (first | ((with_reducible refine gate_dst (N := 4) rfl ?_); (try (refine gate_guard (by rfl) ?_; dsimp only)); refine bx_ 4 #[.int .i64 0, .int .i64 0] 58 ?_; intro gb106 hg w24 hbox hb; have BK106 := Aside0.mk hbox; have GW106 := gs_ hg; have GE106 := gs_ hg; replace HB := hs_ hb; clear hb hbox hg; obtain ⟨hcz25_0, hcz25_1, hfz25_0, hfz25_1⟩ := c2_ BK106.out) | (go_at_call 25; (with_reducible refine (rate_Right.calls ((rd_T58 l0 x7_1).f1) false _ A20.out).mono ?_); rintro e w' ⟨rfl, ⟨nd, rfl⟩⟩; (try first | exact ⟨rfl, _, World.drewN_drewN _ _ _⟩ | exact ⟨rfl, _, Eq.trans (World.drewN_drewN _ _ _) (congrArg (World.drewN _) (Nat.add_assoc _ _ _))⟩)))
          repeat (go_quiet (first | ((with_reducible refine gate_dst (N := 4) rfl ?_); (try (refine gate_guard (by rfl) ?_; dsimp only)); refine bx_ 4 #[.int .i64 0, .int .i64 0] 58 ?_; intro gb106 hg w24 hbox hb; have BK106 := Aside0.mk hbox; have GW106 := gs_ hg; have GE106 := gs_ hg; replace HB := hs_ hb; clear hb hbox hg; obtain ⟨hcz25_0, hcz25_1, hfz25_0, hfz25_1⟩ := c2_ BK106.out) | (go_at_call 25; (with_reducible refine (rate_Right.calls ((rd_T58 l0 x7_1).f1) false _ A20.out).mono ?_); rintro e w' ⟨rfl, ⟨nd, rfl⟩⟩; (try first | exact ⟨rfl, _, World.drewN_drewN _ _ _⟩ | exact ⟨rfl, _, Eq.trans (World.drewN_drewN _ _ _) (congrArg (World.drewN _) (Nat.add_assoc _ _ _))⟩))); try go_wp2_with (first | ((with_reducible refine gate_dst (N := 4) rfl ?_); (try (refine gate_guard (by rfl) ?_; dsimp only)); refine bx_ 4 #[.int .i64 0, .int .i64 0] 58 ?_; intro gb106 hg w24 hbox hb; have BK106 := Aside0.mk hbox; have GW106 := gs_ hg; have GE106 := gs_ hg; replace HB := hs_ hb; clear hb hbox hg; obtain ⟨hcz25_0, hcz25_1, hfz25_0, hfz25_1⟩ := c2_ BK106.out) | (go_at_call 25; (with_reducible refine (rate_Right.calls ((rd_T58 l0 x7_1).f1) false _ A20.out).mono ?_); rintro e w' ⟨rfl, ⟨nd, rfl⟩⟩; (try first | exact ⟨rfl, _, World.drewN_drewN _ _ _⟩ | exact ⟨rfl, _, Eq.trans (World.drewN_drewN _ _ _) (congrArg (World.drewN _) (Nat.add_assoc _ _ _))⟩))))
          go_ret
          exact ⟨se_, bl_⟩
       ·rw [if_neg c6] at H
        have c6b0 : (((rd_T58 l0 x7_1).f0) == 0) = false := beq_eq_false_iff_ne.mpr c6
        have c6b1 : (((rd_T58 l0 x7_1).f0) != 0) = true := bne_iff_ne.mpr c6
        obtain rfl := Option.some.inj H
        have p105 : 0 ≤ (x7_1 : Int) := od_
        have q105 : x7_1 < (l0.length : Int) := od_
        obtain ⟨ad105, e105, hx105_0, hx105_1⟩ := at_T58 HR0.out x7_1 p105 q105
        cases e105
        replace hx105_0 := (HB.out.cell (World.block_lt_of_cell? w _ hx105_0)).trans hx105_0
        replace hx105_1 := (HB.out.cell (World.block_lt_of_cell? w _ hx105_1)).trans hx105_1
        replace p105 := eq_true p105
        replace q105 := eq_true q105
        go_wp2_with (first | ((with_reducible refine gate_dst (N := 4) rfl ?_); (try (refine gate_guard (by rfl) ?_; dsimp only)); refine bx_ 4 #[.int .i64 0, .int .i64 0] 58 ?_; intro gb106 hg w26 hbox hb; have BK106 := Aside0.mk hbox; have GW106 := gs_ hg; have GE106 := gs_ hg; replace HB := hs_ hb; clear hb hbox hg; obtain ⟨hcz27_0, hcz27_1, hfz27_0, hfz27_1⟩ := c2_ BK106.out))
        repeat (go_quiet (first | ((with_reducible refine gate_dst (N := 4) rfl ?_); (try (refine gate_guard (by rfl) ?_; dsimp only)); refine bx_ 4 #[.int .i64 0, .int .i64 0] 58 ?_; intro gb106 hg w26 hbox hb; have BK106 := Aside0.mk hbox; have GW106 := gs_ hg; have GE106 := gs_ hg; replace HB := hs_ hb; clear hb hbox hg; obtain ⟨hcz27_0, hcz27_1, hfz27_0, hfz27_1⟩ := c2_ BK106.out)); try go_wp2_with (first | ((with_reducible refine gate_dst (N := 4) rfl ?_); (try (refine gate_guard (by rfl) ?_; dsimp only)); refine bx_ 4 #[.int .i64 0, .int .i64 0] 58 ?_; intro gb106 hg w26 hbox hb; have BK106 := Aside0.mk hbox; have GW106 := gs_ hg; have GE106 := gs_ hg; replace HB := hs_ hb; clear hb hbox hg; obtain ⟨hcz27_0, hcz27_1, hfz27_0, hfz27_1⟩ := c2_ BK106.out)))
        go_ret
        exact ⟨se_, bl_⟩
      ·rw [if_neg c5] at H
       have c5b0 : (x7_1 == 0) = false := beq_eq_false_iff_ne.mpr c5
       have c5b1 : (x7_1 != 0) = true := bne_iff_ne.mpr c5
       by_cases c28 : x7_1 > 0
       ·rw [if_pos c28] at H
        have c28b0 : decide (0 < x7_1) = true := decide_eq_true c28
        clear c28
        obtain ⟨ji29, hji29⟩ : ∃ j_ : Int, (wrap64 (x7_1 - 1)) = j_ := ⟨_, rfl⟩
        replace H : (if 0 ≤ (ji29) then (if (ji29) < (l0.length : Int) then (if ((rd_T58 l0 x7_1).f0) ≤ ((rd_T58 l0 (ji29)).f0) then (some false) else ((rate_Right.f ((rd_T58 l0 x7_1).f1)).bind fun t111 => (if t111 = true then (brackets_Right.l0 k1 l0 l0 (l0.length : Int) (wrap64 (x7_1 + 1))) else (some false)))) else (none)) else (none)) = some r := by first | (rw [hji29] at H; exact H) | (simp only [hji29] at H ⊢; exact H)
        have hji29w : (IntKind.i64.wrap (x7_1 - 1)) = ji29 := (i64_w _).trans hji29
        by_cases c30 : 0 ≤ (ji29)
        ·rw [if_pos c30] at H
         have c30b0 : decide (0 ≤ (ji29)) = true := decide_eq_true c30
         clear c30
         by_cases c31 : (ji29) < (l0.length : Int)
         ·rw [if_pos c31] at H
          have c31b0 : decide ((ji29) < (l0.length : Int)) = true := decide_eq_true c31
          clear c31
          by_cases c32 : ((rd_T58 l0 x7_1).f0) ≤ ((rd_T58 l0 (ji29)).f0)
          ·rw [if_pos c32] at H
           have c32b0 : decide (((rd_T58 l0 x7_1).f0) ≤ ((rd_T58 l0 (ji29)).f0)) = true := decide_eq_true c32
           clear c32
           obtain rfl := Option.some.inj H
           have p105 : 0 ≤ (x7_1 : Int) := od_
           have q105 : x7_1 < (l0.length : Int) := od_
           obtain ⟨ad105, e105, hx105_0, hx105_1⟩ := at_T58 HR0.out x7_1 p105 q105
           cases e105
           replace hx105_0 := (HB.out.cell (World.block_lt_of_cell? w _ hx105_0)).trans hx105_0
           replace hx105_1 := (HB.out.cell (World.block_lt_of_cell? w _ hx105_1)).trans hx105_1
           replace p105 := eq_true p105
           replace q105 := eq_true q105
           go_wp2_with (first | ((with_reducible refine gate_dst (N := 4) rfl ?_); (try (refine gate_guard (by rfl) ?_; dsimp only)); refine bx_ 4 #[.int .i64 0, .int .i64 0] 58 ?_; intro gb106 hg w33 hbox hb; have BK106 := Aside0.mk hbox; have GW106 := gs_ hg; have GE106 := gs_ hg; replace HB := hs_ hb; clear hb hbox hg; obtain ⟨hcz34_0, hcz34_1, hfz34_0, hfz34_1⟩ := c2_ BK106.out; have p110 : 0 ≤ ((ji29) : Int) := od_; have q110 : (ji29) < (l0.length : Int) := od_; obtain ⟨ad110, e110, hx110_0, hx110_1⟩ := at_T58 HR0.out (ji29) p110 q110; obtain rfl : ad105 = ad110 := (by injection e110); have hn110_0 : ad105.block ≠ gb106 := Nat.ne_of_lt (Nat.lt_of_lt_of_le (by have := World.block_lt_of_cell? _ _ hx110_0; first | rwa [add_block] at this | exact this) GW106.out); have hn110_1 : ad105.block ≠ gb106 := Nat.ne_of_lt (Nat.lt_of_lt_of_le (by have := World.block_lt_of_cell? _ _ hx110_0; first | rwa [add_block] at this | exact this) GW106.out); replace hx110_0 := (HB.out.cell (World.block_lt_of_cell? w _ hx110_0)).trans hx110_0; replace hx110_1 := (HB.out.cell (World.block_lt_of_cell? w _ hx110_1)).trans hx110_1; replace hx110_0 := (cell_far (p := ⟨gb106, 0, none⟩) (by first | (rw [add_block]; exact hn110_0) | (show (Addr.add _ _).block ≠ _; rw [add_block]; exact hn110_0) | exact hn110_0) (.int .i64 ((rd_T58 l0 x7_1).f0))).trans hx110_0; replace hx110_1 := (cell_far (p := ⟨gb106, 0, none⟩) (by first | (rw [add_block]; exact hn110_0) | (show (Addr.add _ _).block ≠ _; rw [add_block]; exact hn110_0) | exact hn110_0) (.int .i64 ((rd_T58 l0 x7_1).f0))).trans hx110_1; replace hx110_0 := (cell_far (p := ⟨gb106, 1, none⟩) (by first | (rw [add_block]; exact hn110_1) | (show (Addr.add _ _).block ≠ _; rw [add_block]; exact hn110_1) | exact hn110_1) (.int .i64 ((rd_T58 l0 x7_1).f1))).trans hx110_0; replace hx110_1 := (cell_far (p := ⟨gb106, 1, none⟩) (by first | (rw [add_block]; exact hn110_1) | (show (Addr.add _ _).block ≠ _; rw [add_block]; exact hn110_1) | exact hn110_1) (.int .i64 ((rd_T58 l0 x7_1).f1))).trans hx110_1; (try have hy110_0 := fun (n_ : Nat) => (show ((((w33.drewN n_).setCell ⟨gb106, 0, none⟩ (.int .i64 ((rd_T58 l0 x7_1).f0))).setCell ⟨gb106, 1, none⟩ (.int .i64 ((rd_T58 l0 x7_1).f1)))).cell? _ = some _ from hx110_0)); (try have hy110_1 := fun (n_ : Nat) => (show ((((w33.drewN n_).setCell ⟨gb106, 0, none⟩ (.int .i64 ((rd_T58 l0 x7_1).f0))).setCell ⟨gb106, 1, none⟩ (.int .i64 ((rd_T58 l0 x7_1).f1)))).cell? _ = some _ from hx110_1)); clear hn110_0; clear hn110_1; replace p110 := eq_true p110; replace q110 := eq_true q110))
           repeat (go_quiet (first | ((with_reducible refine gate_dst (N := 4) rfl ?_); (try (refine gate_guard (by rfl) ?_; dsimp only)); refine bx_ 4 #[.int .i64 0, .int .i64 0] 58 ?_; intro gb106 hg w33 hbox hb; have BK106 := Aside0.mk hbox; have GW106 := gs_ hg; have GE106 := gs_ hg; replace HB := hs_ hb; clear hb hbox hg; obtain ⟨hcz34_0, hcz34_1, hfz34_0, hfz34_1⟩ := c2_ BK106.out; have p110 : 0 ≤ ((ji29) : Int) := od_; have q110 : (ji29) < (l0.length : Int) := od_; obtain ⟨ad110, e110, hx110_0, hx110_1⟩ := at_T58 HR0.out (ji29) p110 q110; obtain rfl : ad105 = ad110 := (by injection e110); have hn110_0 : ad105.block ≠ gb106 := Nat.ne_of_lt (Nat.lt_of_lt_of_le (by have := World.block_lt_of_cell? _ _ hx110_0; first | rwa [add_block] at this | exact this) GW106.out); have hn110_1 : ad105.block ≠ gb106 := Nat.ne_of_lt (Nat.lt_of_lt_of_le (by have := World.block_lt_of_cell? _ _ hx110_0; first | rwa [add_block] at this | exact this) GW106.out); replace hx110_0 := (HB.out.cell (World.block_lt_of_cell? w _ hx110_0)).trans hx110_0; replace hx110_1 := (HB.out.cell (World.block_lt_of_cell? w _ hx110_1)).trans hx110_1; replace hx110_0 := (cell_far (p := ⟨gb106, 0, none⟩) (by first | (rw [add_block]; exact hn110_0) | (show (Addr.add _ _).block ≠ _; rw [add_block]; exact hn110_0) | exact hn110_0) (.int .i64 ((rd_T58 l0 x7_1).f0))).trans hx110_0; replace hx110_1 := (cell_far (p := ⟨gb106, 0, none⟩) (by first | (rw [add_block]; exact hn110_0) | (show (Addr.add _ _).block ≠ _; rw [add_block]; exact hn110_0) | exact hn110_0) (.int .i64 ((rd_T58 l0 x7_1).f0))).trans hx110_1; replace hx110_0 := (cell_far (p := ⟨gb106, 1, none⟩) (by first | (rw [add_block]; exact hn110_1) | (show (Addr.add _ _).block ≠ _; rw [add_block]; exact hn110_1) | exact hn110_1) (.int .i64 ((rd_T58 l0 x7_1).f1))).trans hx110_0; replace hx110_1 := (cell_far (p := ⟨gb106, 1, none⟩) (by first | (rw [add_block]; exact hn110_1) | (show (Addr.add _ _).block ≠ _; rw [add_block]; exact hn110_1) | exact hn110_1) (.int .i64 ((rd_T58 l0 x7_1).f1))).trans hx110_1; (try have hy110_0 := fun (n_ : Nat) => (show ((((w33.drewN n_).setCell ⟨gb106, 0, none⟩ (.int .i64 ((rd_T58 l0 x7_1).f0))).setCell ⟨gb106, 1, none⟩ (.int .i64 ((rd_T58 l0 x7_1).f1)))).cell? _ = some _ from hx110_0)); (try have hy110_1 := fun (n_ : Nat) => (show ((((w33.drewN n_).setCell ⟨gb106, 0, none⟩ (.int .i64 ((rd_T58 l0 x7_1).f0))).setCell ⟨gb106, 1, none⟩ (.int .i64 ((rd_T58 l0 x7_1).f1)))).cell? _ = some _ from hx110_1)); clear hn110_0; clear hn110_1; replace p110 := eq_true p110; replace q110 := eq_true q110)); try go_wp2_with (first | ((with_reducible refine gate_dst (N := 4) rfl ?_); (try (refine gate_guard (by rfl) ?_; dsimp only)); refine bx_ 4 #[.int .i64 0, .int .i64 0] 58 ?_; intro gb106 hg w33 hbox hb; have BK106 := Aside0.mk hbox; have GW106 := gs_ hg; have GE106 := gs_ hg; replace HB := hs_ hb; clear hb hbox hg; obtain ⟨hcz34_0, hcz34_1, hfz34_0, hfz34_1⟩ := c2_ BK106.out; have p110 : 0 ≤ ((ji29) : Int) := od_; have q110 : (ji29) < (l0.length : Int) := od_; obtain ⟨ad110, e110, hx110_0, hx110_1⟩ := at_T58 HR0.out (ji29) p110 q110; obtain rfl : ad105 = ad110 := (by injection e110); have hn110_0 : ad105.block ≠ gb106 := Nat.ne_of_lt (Nat.lt_of_lt_of_le (by have := World.block_lt_of_cell? _ _ hx110_0; first | rwa [add_block] at this | exact this) GW106.out); have hn110_1 : ad105.block ≠ gb106 := Nat.ne_of_lt (Nat.lt_of_lt_of_le (by have := World.block_lt_of_cell? _ _ hx110_0; first | rwa [add_block] at this | exact this) GW106.out); replace hx110_0 := (HB.out.cell (World.block_lt_of_cell? w _ hx110_0)).trans hx110_0; replace hx110_1 := (HB.out.cell (World.block_lt_of_cell? w _ hx110_1)).trans hx110_1; replace hx110_0 := (cell_far (p := ⟨gb106, 0, none⟩) (by first | (rw [add_block]; exact hn110_0) | (show (Addr.add _ _).block ≠ _; rw [add_block]; exact hn110_0) | exact hn110_0) (.int .i64 ((rd_T58 l0 x7_1).f0))).trans hx110_0; replace hx110_1 := (cell_far (p := ⟨gb106, 0, none⟩) (by first | (rw [add_block]; exact hn110_0) | (show (Addr.add _ _).block ≠ _; rw [add_block]; exact hn110_0) | exact hn110_0) (.int .i64 ((rd_T58 l0 x7_1).f0))).trans hx110_1; replace hx110_0 := (cell_far (p := ⟨gb106, 1, none⟩) (by first | (rw [add_block]; exact hn110_1) | (show (Addr.add _ _).block ≠ _; rw [add_block]; exact hn110_1) | exact hn110_1) (.int .i64 ((rd_T58 l0 x7_1).f1))).trans hx110_0; replace hx110_1 := (cell_far (p := ⟨gb106, 1, none⟩) (by first | (rw [add_block]; exact hn110_1) | (show (Addr.add _ _).block ≠ _; rw [add_block]; exact hn110_1) | exact hn110_1) (.int .i64 ((rd_T58 l0 x7_1).f1))).trans hx110_1; (try have hy110_0 := fun (n_ : Nat) => (show ((((w33.drewN n_).setCell ⟨gb106, 0, none⟩ (.int .i64 ((rd_T58 l0 x7_1).f0))).setCell ⟨gb106, 1, none⟩ (.int .i64 ((rd_T58 l0 x7_1).f1)))).cell? _ = some _ from hx110_0)); (try have hy110_1 := fun (n_ : Nat) => (show ((((w33.drewN n_).setCell ⟨gb106, 0, none⟩ (.int .i64 ((rd_T58 l0 x7_1).f0))).setCell ⟨gb106, 1, none⟩ (.int .i64 ((rd_T58 l0 x7_1).f1)))).cell? _ = some _ from hx110_1)); clear hn110_0; clear hn110_1; replace p110 := eq_true p110; replace q110 := eq_true q110)))
           go_ret
           exact ⟨by first | rfl | (simp [errW_none, errW_some] <;> rfl) | (simp only [← hji29]; first | rfl | (simp [errW_none, errW_some] <;> rfl)) | (simp [*, errW_none, errW_some] <;> rfl), bl_⟩
          ·rw [if_neg c32] at H
           have c32b0 : decide (((rd_T58 l0 x7_1).f0) ≤ ((rd_T58 l0 (ji29)).f0)) = false := decide_eq_false c32
           clear c32
           replace H := Option.bind_eq_some_iff.mp H
           obtain ⟨t111, A350, H⟩ := H
           (try dsimp only at H)
           have A35 := Aside0.mk A350
           clear A350
           by_cases c36 : t111 = true
           ·subst c36
            rw [if_pos rfl] at H
            have H' := Aside0.mk H
            clear H
            have p105 : 0 ≤ (x7_1 : Int) := od_
            have q105 : x7_1 < (l0.length : Int) := od_
            obtain ⟨ad105, e105, hx105_0, hx105_1⟩ := at_T58 HR0.out x7_1 p105 q105
            cases e105
            replace hx105_0 := (HB.out.cell (World.block_lt_of_cell? w _ hx105_0)).trans hx105_0
            replace hx105_1 := (HB.out.cell (World.block_lt_of_cell? w _ hx105_1)).trans hx105_1
            replace p105 := eq_true p105
            replace q105 := eq_true q105
            go_wp2_with (first | ((with_reducible refine gate_dst (N := 4) rfl ?_); (try (refine gate_guard (by rfl) ?_; dsimp only)); refine bx_ 4 #[.int .i64 0, .int .i64 0] 58 ?_; intro gb106 hg w37 hbox hb; have BK106 := Aside0.mk hbox; have GW106 := gs_ hg; have GE106 := gs_ hg; replace HB := hs_ hb; clear hb hbox hg; obtain ⟨hcz38_0, hcz38_1, hfz38_0, hfz38_1⟩ := c2_ BK106.out; have p110 : 0 ≤ ((ji29) : Int) := od_; have q110 : (ji29) < (l0.length : Int) := od_; obtain ⟨ad110, e110, hx110_0, hx110_1⟩ := at_T58 HR0.out (ji29) p110 q110; obtain rfl : ad105 = ad110 := (by injection e110); have hn110_0 : ad105.block ≠ gb106 := Nat.ne_of_lt (Nat.lt_of_lt_of_le (by have := World.block_lt_of_cell? _ _ hx110_0; first | rwa [add_block] at this | exact this) GW106.out); have hn110_1 : ad105.block ≠ gb106 := Nat.ne_of_lt (Nat.lt_of_lt_of_le (by have := World.block_lt_of_cell? _ _ hx110_0; first | rwa [add_block] at this | exact this) GW106.out); replace hx110_0 := (HB.out.cell (World.block_lt_of_cell? w _ hx110_0)).trans hx110_0; replace hx110_1 := (HB.out.cell (World.block_lt_of_cell? w _ hx110_1)).trans hx110_1; replace hx110_0 := (cell_far (p := ⟨gb106, 0, none⟩) (by first | (rw [add_block]; exact hn110_0) | (show (Addr.add _ _).block ≠ _; rw [add_block]; exact hn110_0) | exact hn110_0) (.int .i64 ((rd_T58 l0 x7_1).f0))).trans hx110_0; replace hx110_1 := (cell_far (p := ⟨gb106, 0, none⟩) (by first | (rw [add_block]; exact hn110_0) | (show (Addr.add _ _).block ≠ _; rw [add_block]; exact hn110_0) | exact hn110_0) (.int .i64 ((rd_T58 l0 x7_1).f0))).trans hx110_1; replace hx110_0 := (cell_far (p := ⟨gb106, 1, none⟩) (by first | (rw [add_block]; exact hn110_1) | (show (Addr.add _ _).block ≠ _; rw [add_block]; exact hn110_1) | exact hn110_1) (.int .i64 ((rd_T58 l0 x7_1).f1))).trans hx110_0; replace hx110_1 := (cell_far (p := ⟨gb106, 1, none⟩) (by first | (rw [add_block]; exact hn110_1) | (show (Addr.add _ _).block ≠ _; rw [add_block]; exact hn110_1) | exact hn110_1) (.int .i64 ((rd_T58 l0 x7_1).f1))).trans hx110_1; (try have hy110_0 := fun (n_ : Nat) => (show ((((w37.drewN n_).setCell ⟨gb106, 0, none⟩ (.int .i64 ((rd_T58 l0 x7_1).f0))).setCell ⟨gb106, 1, none⟩ (.int .i64 ((rd_T58 l0 x7_1).f1)))).cell? _ = some _ from hx110_0)); (try have hy110_1 := fun (n_ : Nat) => (show ((((w37.drewN n_).setCell ⟨gb106, 0, none⟩ (.int .i64 ((rd_T58 l0 x7_1).f0))).setCell ⟨gb106, 1, none⟩ (.int .i64 ((rd_T58 l0 x7_1).f1)))).cell? _ = some _ from hx110_1)); clear hn110_0; clear hn110_1; replace p110 := eq_true p110; replace q110 := eq_true q110) | (go_at_call 25; (with_reducible refine (rate_Right.calls ((rd_T58 l0 x7_1).f1) true _ A35.out).mono ?_); rintro e w' ⟨rfl, ⟨nd, rfl⟩⟩; (try first | exact ⟨rfl, _, World.drewN_drewN _ _ _⟩ | exact ⟨rfl, _, Eq.trans (World.drewN_drewN _ _ _) (congrArg (World.drewN _) (Nat.add_assoc _ _ _))⟩)))
            repeat (go_quiet (first | ((with_reducible refine gate_dst (N := 4) rfl ?_); (try (refine gate_guard (by rfl) ?_; dsimp only)); refine bx_ 4 #[.int .i64 0, .int .i64 0] 58 ?_; intro gb106 hg w37 hbox hb; have BK106 := Aside0.mk hbox; have GW106 := gs_ hg; have GE106 := gs_ hg; replace HB := hs_ hb; clear hb hbox hg; obtain ⟨hcz38_0, hcz38_1, hfz38_0, hfz38_1⟩ := c2_ BK106.out; have p110 : 0 ≤ ((ji29) : Int) := od_; have q110 : (ji29) < (l0.length : Int) := od_; obtain ⟨ad110, e110, hx110_0, hx110_1⟩ := at_T58 HR0.out (ji29) p110 q110; obtain rfl : ad105 = ad110 := (by injection e110); have hn110_0 : ad105.block ≠ gb106 := Nat.ne_of_lt (Nat.lt_of_lt_of_le (by have := World.block_lt_of_cell? _ _ hx110_0; first | rwa [add_block] at this | exact this) GW106.out); have hn110_1 : ad105.block ≠ gb106 := Nat.ne_of_lt (Nat.lt_of_lt_of_le (by have := World.block_lt_of_cell? _ _ hx110_0; first | rwa [add_block] at this | exact this) GW106.out); replace hx110_0 := (HB.out.cell (World.block_lt_of_cell? w _ hx110_0)).trans hx110_0; replace hx110_1 := (HB.out.cell (World.block_lt_of_cell? w _ hx110_1)).trans hx110_1; replace hx110_0 := (cell_far (p := ⟨gb106, 0, none⟩) (by first | (rw [add_block]; exact hn110_0) | (show (Addr.add _ _).block ≠ _; rw [add_block]; exact hn110_0) | exact hn110_0) (.int .i64 ((rd_T58 l0 x7_1).f0))).trans hx110_0; replace hx110_1 := (cell_far (p := ⟨gb106, 0, none⟩) (by first | (rw [add_block]; exact hn110_0) | (show (Addr.add _ _).block ≠ _; rw [add_block]; exact hn110_0) | exact hn110_0) (.int .i64 ((rd_T58 l0 x7_1).f0))).trans hx110_1; replace hx110_0 := (cell_far (p := ⟨gb106, 1, none⟩) (by first | (rw [add_block]; exact hn110_1) | (show (Addr.add _ _).block ≠ _; rw [add_block]; exact hn110_1) | exact hn110_1) (.int .i64 ((rd_T58 l0 x7_1).f1))).trans hx110_0; replace hx110_1 := (cell_far (p := ⟨gb106, 1, none⟩) (by first | (rw [add_block]; exact hn110_1) | (show (Addr.add _ _).block ≠ _; rw [add_block]; exact hn110_1) | exact hn110_1) (.int .i64 ((rd_T58 l0 x7_1).f1))).trans hx110_1; (try have hy110_0 := fun (n_ : Nat) => (show ((((w37.drewN n_).setCell ⟨gb106, 0, none⟩ (.int .i64 ((rd_T58 l0 x7_1).f0))).setCell ⟨gb106, 1, none⟩ (.int .i64 ((rd_T58 l0 x7_1).f1)))).cell? _ = some _ from hx110_0)); (try have hy110_1 := fun (n_ : Nat) => (show ((((w37.drewN n_).setCell ⟨gb106, 0, none⟩ (.int .i64 ((rd_T58 l0 x7_1).f0))).setCell ⟨gb106, 1, none⟩ (.int .i64 ((rd_T58 l0 x7_1).f1)))).cell? _ = some _ from hx110_1)); clear hn110_0; clear hn110_1; replace p110 := eq_true p110; replace q110 := eq_true q110) | (go_at_call 25; (with_reducible refine (rate_Right.calls ((rd_T58 l0 x7_1).f1) true _ A35.out).mono ?_); rintro e w' ⟨rfl, ⟨nd, rfl⟩⟩; (try first | exact ⟨rfl, _, World.drewN_drewN _ _ _⟩ | exact ⟨rfl, _, Eq.trans (World.drewN_drewN _ _ _) (congrArg (World.drewN _) (Nat.add_assoc _ _ _))⟩))); try go_wp2_with (first | ((with_reducible refine gate_dst (N := 4) rfl ?_); (try (refine gate_guard (by rfl) ?_; dsimp only)); refine bx_ 4 #[.int .i64 0, .int .i64 0] 58 ?_; intro gb106 hg w37 hbox hb; have BK106 := Aside0.mk hbox; have GW106 := gs_ hg; have GE106 := gs_ hg; replace HB := hs_ hb; clear hb hbox hg; obtain ⟨hcz38_0, hcz38_1, hfz38_0, hfz38_1⟩ := c2_ BK106.out; have p110 : 0 ≤ ((ji29) : Int) := od_; have q110 : (ji29) < (l0.length : Int) := od_; obtain ⟨ad110, e110, hx110_0, hx110_1⟩ := at_T58 HR0.out (ji29) p110 q110; obtain rfl : ad105 = ad110 := (by injection e110); have hn110_0 : ad105.block ≠ gb106 := Nat.ne_of_lt (Nat.lt_of_lt_of_le (by have := World.block_lt_of_cell? _ _ hx110_0; first | rwa [add_block] at this | exact this) GW106.out); have hn110_1 : ad105.block ≠ gb106 := Nat.ne_of_lt (Nat.lt_of_lt_of_le (by have := World.block_lt_of_cell? _ _ hx110_0; first | rwa [add_block] at this | exact this) GW106.out); replace hx110_0 := (HB.out.cell (World.block_lt_of_cell? w _ hx110_0)).trans hx110_0; replace hx110_1 := (HB.out.cell (World.block_lt_of_cell? w _ hx110_1)).trans hx110_1; replace hx110_0 := (cell_far (p := ⟨gb106, 0, none⟩) (by first | (rw [add_block]; exact hn110_0) | (show (Addr.add _ _).block ≠ _; rw [add_block]; exact hn110_0) | exact hn110_0) (.int .i64 ((rd_T58 l0 x7_1).f0))).trans hx110_0; replace hx110_1 := (cell_far (p := ⟨gb106, 0, none⟩) (by first | (rw [add_block]; exact hn110_0) | (show (Addr.add _ _).block ≠ _; rw [add_block]; exact hn110_0) | exact hn110_0) (.int .i64 ((rd_T58 l0 x7_1).f0))).trans hx110_1; replace hx110_0 := (cell_far (p := ⟨gb106, 1, none⟩) (by first | (rw [add_block]; exact hn110_1) | (show (Addr.add _ _).block ≠ _; rw [add_block]; exact hn110_1) | exact hn110_1) (.int .i64 ((rd_T58 l0 x7_1).f1))).trans hx110_0; replace hx110_1 := (cell_far (p := ⟨gb106, 1, none⟩) (by first | (rw [add_block]; exact hn110_1) | (show (Addr.add _ _).block ≠ _; rw [add_block]; exact hn110_1) | exact hn110_1) (.int .i64 ((rd_T58 l0 x7_1).f1))).trans hx110_1; (try have hy110_0 := fun (n_ : Nat) => (show ((((w37.drewN n_).setCell ⟨gb106, 0, none⟩ (.int .i64 ((rd_T58 l0 x7_1).f0))).setCell ⟨gb106, 1, none⟩ (.int .i64 ((rd_T58 l0 x7_1).f1)))).cell? _ = some _ from hx110_0)); (try have hy110_1 := fun (n_ : Nat) => (show ((((w37.drewN n_).setCell ⟨gb106, 0, none⟩ (.int .i64 ((rd_T58 l0 x7_1).f0))).setCell ⟨gb106, 1, none⟩ (.int .i64 ((rd_T58 l0 x7_1).f1)))).cell? _ = some _ from hx110_1)); clear hn110_0; clear hn110_1; replace p110 := eq_true p110; replace q110 := eq_true q110) | (go_at_call 25; (with_reducible refine (rate_Right.calls ((rd_T58 l0 x7_1).f1) true _ A35.out).mono ?_); rintro e w' ⟨rfl, ⟨nd, rfl⟩⟩; (try first | exact ⟨rfl, _, World.drewN_drewN _ _ _⟩ | exact ⟨rfl, _, Eq.trans (World.drewN_drewN _ _ _) (congrArg (World.drewN _) (Nat.add_assoc _ _ _))⟩))))
            go_roundg k1
            case measure => have := HK1.out; omega
            case rel => exact ⟨(wrap64 (x7_1 + 1)), sm_, H', ⟨by have := HK1.out; omega⟩, ⟨bl_⟩⟩
           ·replace c36 := Bool.eq_false_iff.mpr c36
            subst c36
            rw [if_neg (show ¬ (false = true) by decide)] at H
            obtain rfl := Option.some.inj H
            have p105 : 0 ≤ (x7_1 : Int) := od_
            have q105 : x7_1 < (l0.length : Int) := od_
            obtain ⟨ad105, e105, hx105_0, hx105_1⟩ := at_T58 HR0.out x7_1 p105 q105
            cases e105
            replace hx105_0 := (HB.out.cell (World.block_lt_of_cell? w _ hx105_0)).trans hx105_0
            replace hx105_1 := (HB.out.cell (World.block_lt_of_cell? w _ hx105_1)).trans hx105_1
            replace p105 := eq_true p105
            replace q105 := eq_true q105
            go_wp2_with (first | ((with_reducible refine gate_dst (N := 4) rfl ?_); (try (refine gate_guard (by rfl) ?_; dsimp only)); refine bx_ 4 #[.int .i64 0, .int .i64 0] 58 ?_; intro gb106 hg w39 hbox hb; have BK106 := Aside0.mk hbox; have GW106 := gs_ hg; have GE106 := gs_ hg; replace HB := hs_ hb; clear hb hbox hg; obtain ⟨hcz40_0, hcz40_1, hfz40_0, hfz40_1⟩ := c2_ BK106.out; have p110 : 0 ≤ ((ji29) : Int) := od_; have q110 : (ji29) < (l0.length : Int) := od_; obtain ⟨ad110, e110, hx110_0, hx110_1⟩ := at_T58 HR0.out (ji29) p110 q110; obtain rfl : ad105 = ad110 := (by injection e110); have hn110_0 : ad105.block ≠ gb106 := Nat.ne_of_lt (Nat.lt_of_lt_of_le (by have := World.block_lt_of_cell? _ _ hx110_0; first | rwa [add_block] at this | exact this) GW106.out); have hn110_1 : ad105.block ≠ gb106 := Nat.ne_of_lt (Nat.lt_of_lt_of_le (by have := World.block_lt_of_cell? _ _ hx110_0; first | rwa [add_block] at this | exact this) GW106.out); replace hx110_0 := (HB.out.cell (World.block_lt_of_cell? w _ hx110_0)).trans hx110_0; replace hx110_1 := (HB.out.cell (World.block_lt_of_cell? w _ hx110_1)).trans hx110_1; replace hx110_0 := (cell_far (p := ⟨gb106, 0, none⟩) (by first | (rw [add_block]; exact hn110_0) | (show (Addr.add _ _).block ≠ _; rw [add_block]; exact hn110_0) | exact hn110_0) (.int .i64 ((rd_T58 l0 x7_1).f0))).trans hx110_0; replace hx110_1 := (cell_far (p := ⟨gb106, 0, none⟩) (by first | (rw [add_block]; exact hn110_0) | (show (Addr.add _ _).block ≠ _; rw [add_block]; exact hn110_0) | exact hn110_0) (.int .i64 ((rd_T58 l0 x7_1).f0))).trans hx110_1; replace hx110_0 := (cell_far (p := ⟨gb106, 1, none⟩) (by first | (rw [add_block]; exact hn110_1) | (show (Addr.add _ _).block ≠ _; rw [add_block]; exact hn110_1) | exact hn110_1) (.int .i64 ((rd_T58 l0 x7_1).f1))).trans hx110_0; replace hx110_1 := (cell_far (p := ⟨gb106, 1, none⟩) (by first | (rw [add_block]; exact hn110_1) | (show (Addr.add _ _).block ≠ _; rw [add_block]; exact hn110_1) | exact hn110_1) (.int .i64 ((rd_T58 l0 x7_1).f1))).trans hx110_1; (try have hy110_0 := fun (n_ : Nat) => (show ((((w39.drewN n_).setCell ⟨gb106, 0, none⟩ (.int .i64 ((rd_T58 l0 x7_1).f0))).setCell ⟨gb106, 1, none⟩ (.int .i64 ((rd_T58 l0 x7_1).f1)))).cell? _ = some _ from hx110_0)); (try have hy110_1 := fun (n_ : Nat) => (show ((((w39.drewN n_).setCell ⟨gb106, 0, none⟩ (.int .i64 ((rd_T58 l0 x7_1).f0))).setCell ⟨gb106, 1, none⟩ (.int .i64 ((rd_T58 l0 x7_1).f1)))).cell? _ = some _ from hx110_1)); clear hn110_0; clear hn110_1; replace p110 := eq_true p110; replace q110 := eq_true q110) | (go_at_call 25; (with_reducible refine (rate_Right.calls ((rd_T58 l0 x7_1).f1) false _ A35.out).mono ?_); rintro e w' ⟨rfl, ⟨nd, rfl⟩⟩; (try first | exact ⟨rfl, _, World.drewN_drewN _ _ _⟩ | exact ⟨rfl, _, Eq.trans (World.drewN_drewN _ _ _) (congrArg (World.drewN _) (Nat.add_assoc _ _ _))⟩)))
            repeat (go_quiet (first | ((with_reducible refine gate_dst (N := 4) rfl ?_); (try (refine gate_guard (by rfl) ?_; dsimp only)); refine bx_ 4 #[.int .i64 0, .int .i64 0] 58 ?_; intro gb106 hg w39 hbox hb; have BK106 := Aside0.mk hbox; have GW106 := gs_ hg; have GE106 := gs_ hg; replace HB := hs_ hb; clear hb hbox hg; obtain ⟨hcz40_0, hcz40_1, hfz40_0, hfz40_1⟩ := c2_ BK106.out; have p110 : 0 ≤ ((ji29) : Int) := od_; have q110 : (ji29) < (l0.length : Int) := od_; obtain ⟨ad110, e110, hx110_0, hx110_1⟩ := at_T58 HR0.out (ji29) p110 q110; obtain rfl : ad105 = ad110 := (by injection e110); have hn110_0 : ad105.block ≠ gb106 := Nat.ne_of_lt (Nat.lt_of_lt_of_le (by have := World.block_lt_of_cell? _ _ hx110_0; first | rwa [add_block] at this | exact this) GW106.out); have hn110_1 : ad105.block ≠ gb106 := Nat.ne_of_lt (Nat.lt_of_lt_of_le (by have := World.block_lt_of_cell? _ _ hx110_0; first | rwa [add_block] at this | exact this) GW106.out); replace hx110_0 := (HB.out.cell (World.block_lt_of_cell? w _ hx110_0)).trans hx110_0; replace hx110_1 := (HB.out.cell (World.block_lt_of_cell? w _ hx110_1)).trans hx110_1; replace hx110_0 := (cell_far (p := ⟨gb106, 0, none⟩) (by first | (rw [add_block]; exact hn110_0) | (show (Addr.add _ _).block ≠ _; rw [add_block]; exact hn110_0) | exact hn110_0) (.int .i64 ((rd_T58 l0 x7_1).f0))).trans hx110_0; replace hx110_1 := (cell_far (p := ⟨gb106, 0, none⟩) (by first | (rw [add_block]; exact hn110_0) | (show (Addr.add _ _).block ≠ _; rw [add_block]; exact hn110_0) | exact hn110_0) (.int .i64 ((rd_T58 l0 x7_1).f0))).trans hx110_1; replace hx110_0 := (cell_far (p := ⟨gb106, 1, none⟩) (by first | (rw [add_block]; exact hn110_1) | (show (Addr.add _ _).block ≠ _; rw [add_block]; exact hn110_1) | exact hn110_1) (.int .i64 ((rd_T58 l0 x7_1).f1))).trans hx110_0; replace hx110_1 := (cell_far (p := ⟨gb106, 1, none⟩) (by first | (rw [add_block]; exact hn110_1) | (show (Addr.add _ _).block ≠ _; rw [add_block]; exact hn110_1) | exact hn110_1) (.int .i64 ((rd_T58 l0 x7_1).f1))).trans hx110_1; (try have hy110_0 := fun (n_ : Nat) => (show ((((w39.drewN n_).setCell ⟨gb106, 0, none⟩ (.int .i64 ((rd_T58 l0 x7_1).f0))).setCell ⟨gb106, 1, none⟩ (.int .i64 ((rd_T58 l0 x7_1).f1)))).cell? _ = some _ from hx110_0)); (try have hy110_1 := fun (n_ : Nat) => (show ((((w39.drewN n_).setCell ⟨gb106, 0, none⟩ (.int .i64 ((rd_T58 l0 x7_1).f0))).setCell ⟨gb106, 1, none⟩ (.int .i64 ((rd_T58 l0 x7_1).f1)))).cell? _ = some _ from hx110_1)); clear hn110_0; clear hn110_1; replace p110 := eq_true p110; replace q110 := eq_true q110) | (go_at_call 25; (with_reducible refine (rate_Right.calls ((rd_T58 l0 x7_1).f1) false _ A35.out).mono ?_); rintro e w' ⟨rfl, ⟨nd, rfl⟩⟩; (try first | exact ⟨rfl, _, World.drewN_drewN _ _ _⟩ | exact ⟨rfl, _, Eq.trans (World.drewN_drewN _ _ _) (congrArg (World.drewN _) (Nat.add_assoc _ _ _))⟩))); try go_wp2_with (first | ((with_reducible refine gate_dst (N := 4) rfl ?_); (try (refine gate_guard (by rfl) ?_; dsimp only)); refine bx_ 4 #[.int .i64 0, .int .i64 0] 58 ?_; intro gb106 hg w39 hbox hb; have BK106 := Aside0.mk hbox; have GW106 := gs_ hg; have GE106 := gs_ hg; replace HB := hs_ hb; clear hb hbox hg; obtain ⟨hcz40_0, hcz40_1, hfz40_0, hfz40_1⟩ := c2_ BK106.out; have p110 : 0 ≤ ((ji29) : Int) := od_; have q110 : (ji29) < (l0.length : Int) := od_; obtain ⟨ad110, e110, hx110_0, hx110_1⟩ := at_T58 HR0.out (ji29) p110 q110; obtain rfl : ad105 = ad110 := (by injection e110); have hn110_0 : ad105.block ≠ gb106 := Nat.ne_of_lt (Nat.lt_of_lt_of_le (by have := World.block_lt_of_cell? _ _ hx110_0; first | rwa [add_block] at this | exact this) GW106.out); have hn110_1 : ad105.block ≠ gb106 := Nat.ne_of_lt (Nat.lt_of_lt_of_le (by have := World.block_lt_of_cell? _ _ hx110_0; first | rwa [add_block] at this | exact this) GW106.out); replace hx110_0 := (HB.out.cell (World.block_lt_of_cell? w _ hx110_0)).trans hx110_0; replace hx110_1 := (HB.out.cell (World.block_lt_of_cell? w _ hx110_1)).trans hx110_1; replace hx110_0 := (cell_far (p := ⟨gb106, 0, none⟩) (by first | (rw [add_block]; exact hn110_0) | (show (Addr.add _ _).block ≠ _; rw [add_block]; exact hn110_0) | exact hn110_0) (.int .i64 ((rd_T58 l0 x7_1).f0))).trans hx110_0; replace hx110_1 := (cell_far (p := ⟨gb106, 0, none⟩) (by first | (rw [add_block]; exact hn110_0) | (show (Addr.add _ _).block ≠ _; rw [add_block]; exact hn110_0) | exact hn110_0) (.int .i64 ((rd_T58 l0 x7_1).f0))).trans hx110_1; replace hx110_0 := (cell_far (p := ⟨gb106, 1, none⟩) (by first | (rw [add_block]; exact hn110_1) | (show (Addr.add _ _).block ≠ _; rw [add_block]; exact hn110_1) | exact hn110_1) (.int .i64 ((rd_T58 l0 x7_1).f1))).trans hx110_0; replace hx110_1 := (cell_far (p := ⟨gb106, 1, none⟩) (by first | (rw [add_block]; exact hn110_1) | (show (Addr.add _ _).block ≠ _; rw [add_block]; exact hn110_1) | exact hn110_1) (.int .i64 ((rd_T58 l0 x7_1).f1))).trans hx110_1; (try have hy110_0 := fun (n_ : Nat) => (show ((((w39.drewN n_).setCell ⟨gb106, 0, none⟩ (.int .i64 ((rd_T58 l0 x7_1).f0))).setCell ⟨gb106, 1, none⟩ (.int .i64 ((rd_T58 l0 x7_1).f1)))).cell? _ = some _ from hx110_0)); (try have hy110_1 := fun (n_ : Nat) => (show ((((w39.drewN n_).setCell ⟨gb106, 0, none⟩ (.int .i64 ((rd_T58 l0 x7_1).f0))).setCell ⟨gb106, 1, none⟩ (.int .i64 ((rd_T58 l0 x7_1).f1)))).cell? _ = some _ from hx110_1)); clear hn110_0; clear hn110_1; replace p110 := eq_true p110; replace q110 := eq_true q110) | (go_at_call 25; (with_reducible refine (rate_Right.calls ((rd_T58 l0 x7_1).f1) false _ A35.out).mono ?_); rintro e w' ⟨rfl, ⟨nd, rfl⟩⟩; (try first | exact ⟨rfl, _, World.drewN_drewN _ _ _⟩ | exact ⟨rfl, _, Eq.trans (World.drewN_drewN _ _ _) (congrArg (World.drewN _) (Nat.add_assoc _ _ _))⟩))))
            go_ret
            exact ⟨by first | rfl | (simp [errW_none, errW_some] <;> rfl) | (simp only [← hji29]; first | rfl | (simp [errW_none, errW_some] <;> rfl)) | (simp [*, errW_none, errW_some] <;> rfl), bl_⟩
         ·rw [if_neg c31] at H
          exact absurd H (by simp)
        ·rw [if_neg c30] at H
         exact absurd H (by simp)
       ·rw [if_neg c28] at H
        have c28b0 : decide (0 < x7_1) = false := decide_eq_false c28
        clear c28
        replace H := Option.bind_eq_some_iff.mp H
        obtain ⟨t112, A410, H⟩ := H
        (try dsimp only at H)
        have A41 := Aside0.mk A410
        clear A410
        by_cases c42 : t112 = true
        ·subst c42
         rw [if_pos rfl] at H
         have H' := Aside0.mk H
         clear H
         have p105 : 0 ≤ (x7_1 : Int) := od_
         have q105 : x7_1 < (l0.length : Int) := od_
         obtain ⟨ad105, e105, hx105_0, hx105_1⟩ := at_T58 HR0.out x7_1 p105 q105
         cases e105
         replace hx105_0 := (HB.out.cell (World.block_lt_of_cell? w _ hx105_0)).trans hx105_0
         replace hx105_1 := (HB.out.cell (World.block_lt_of_cell? w _ hx105_1)).trans hx105_1
         replace p105 := eq_true p105
         replace q105 := eq_true q105
         go_wp2_with (first | ((with_reducible refine gate_dst (N := 4) rfl ?_); (try (refine gate_guard (by rfl) ?_; dsimp only)); refine bx_ 4 #[.int .i64 0, .int .i64 0] 58 ?_; intro gb106 hg w43 hbox hb; have BK106 := Aside0.mk hbox; have GW106 := gs_ hg; have GE106 := gs_ hg; replace HB := hs_ hb; clear hb hbox hg; obtain ⟨hcz44_0, hcz44_1, hfz44_0, hfz44_1⟩ := c2_ BK106.out) | (go_at_call 25; (with_reducible refine (rate_Right.calls ((rd_T58 l0 x7_1).f1) true _ A41.out).mono ?_); rintro e w' ⟨rfl, ⟨nd, rfl⟩⟩; (try first | exact ⟨rfl, _, World.drewN_drewN _ _ _⟩ | exact ⟨rfl, _, Eq.trans (World.drewN_drewN _ _ _) (congrArg (World.drewN _) (Nat.add_assoc _ _ _))⟩)))
         repeat (go_quiet (first | ((with_reducible refine gate_dst (N := 4) rfl ?_); (try (refine gate_guard (by rfl) ?_; dsimp only)); refine bx_ 4 #[.int .i64 0, .int .i64 0] 58 ?_; intro gb106 hg w43 hbox hb; have BK106 := Aside0.mk hbox; have GW106 := gs_ hg; have GE106 := gs_ hg; replace HB := hs_ hb; clear hb hbox hg; obtain ⟨hcz44_0, hcz44_1, hfz44_0, hfz44_1⟩ := c2_ BK106.out) | (go_at_call 25; (with_reducible refine (rate_Right.calls ((rd_T58 l0 x7_1).f1) true _ A41.out).mono ?_); rintro e w' ⟨rfl, ⟨nd, rfl⟩⟩; (try first | exact ⟨rfl, _, World.drewN_drewN _ _ _⟩ | exact ⟨rfl, _, Eq.trans (World.drewN_drewN _ _ _) (congrArg (World.drewN _) (Nat.add_assoc _ _ _))⟩))); try go_wp2_with (first | ((with_reducible refine gate_dst (N := 4) rfl ?_); (try (refine gate_guard (by rfl) ?_; dsimp only)); refine bx_ 4 #[.int .i64 0, .int .i64 0] 58 ?_; intro gb106 hg w43 hbox hb; have BK106 := Aside0.mk hbox; have GW106 := gs_ hg; have GE106 := gs_ hg; replace HB := hs_ hb; clear hb hbox hg; obtain ⟨hcz44_0, hcz44_1, hfz44_0, hfz44_1⟩ := c2_ BK106.out) | (go_at_call 25; (with_reducible refine (rate_Right.calls ((rd_T58 l0 x7_1).f1) true _ A41.out).mono ?_); rintro e w' ⟨rfl, ⟨nd, rfl⟩⟩; (try first | exact ⟨rfl, _, World.drewN_drewN _ _ _⟩ | exact ⟨rfl, _, Eq.trans (World.drewN_drewN _ _ _) (congrArg (World.drewN _) (Nat.add_assoc _ _ _))⟩))))
         go_roundg k1
         case measure => have := HK1.out; omega
         case rel => exact ⟨(wrap64 (x7_1 + 1)), sm_, H', ⟨by have := HK1.out; omega⟩, ⟨bl_⟩⟩
        ·replace c42 := Bool.eq_false_iff.mpr c42
         subst c42
         rw [if_neg (show ¬ (false = true) by decide)] at H
         obtain rfl := Option.some.inj H
         have p105 : 0 ≤ (x7_1 : Int) := od_
         have q105 : x7_1 < (l0.length : Int) := od_
         obtain ⟨ad105, e105, hx105_0, hx105_1⟩ := at_T58 HR0.out x7_1 p105 q105
         cases e105
         replace hx105_0 := (HB.out.cell (World.block_lt_of_cell? w _ hx105_0)).trans hx105_0
         replace hx105_1 := (HB.out.cell (World.block_lt_of_cell? w _ hx105_1)).trans hx105_1
         replace p105 := eq_true p105
         replace q105 := eq_true q105
         go_wp2_with (first | ((with_reducible refine gate_dst (N := 4) rfl ?_); (try (refine gate_guard (by rfl) ?_; dsimp only)); refine bx_ 4 #[.int .i64 0, .int .i64 0] 58 ?_; intro gb106 hg w45 hbox hb; have BK106 := Aside0.mk hbox; have GW106 := gs_ hg; have GE106 := gs_ hg; replace HB := hs_ hb; clear hb hbox hg; obtain ⟨hcz46_0, hcz46_1, hfz46_0, hfz46_1⟩ := c2_ BK106.out) | (go_at_call 25; (with_reducible refine (rate_Right.calls ((rd_T58 l0 x7_1).f1) false _ A41.out).mono ?_); rintro e w' ⟨rfl, ⟨nd, rfl⟩⟩; (try first | exact ⟨rfl, _, World.drewN_drewN _ _ _⟩ | exact ⟨rfl, _, Eq.trans (World.drewN_drewN _ _ _) (congrArg (World.drewN _) (Nat.add_assoc _ _ _))⟩)))
         repeat (go_quiet (first | ((with_reducible refine gate_dst (N := 4) rfl ?_); (try (refine gate_guard (by rfl) ?_; dsimp only)); refine bx_ 4 #[.int .i64 0, .int .i64 0] 58 ?_; intro gb106 hg w45 hbox hb; have BK106 := Aside0.mk hbox; have GW106 := gs_ hg; have GE106 := gs_ hg; replace HB := hs_ hb; clear hb hbox hg; obtain ⟨hcz46_0, hcz46_1, hfz46_0, hfz46_1⟩ := c2_ BK106.out) | (go_at_call 25; (with_reducible refine (rate_Right.calls ((rd_T58 l0 x7_1).f1) false _ A41.out).mono ?_); rintro e w' ⟨rfl, ⟨nd, rfl⟩⟩; (try first | exact ⟨rfl, _, World.drewN_drewN _ _ _⟩ | exact ⟨rfl, _, Eq.trans (World.drewN_drewN _ _ _) (congrArg (World.drewN _) (Nat.add_assoc _ _ _))⟩))); try go_wp2_with (first | ((with_reducible refine gate_dst (N := 4) rfl ?_); (try (refine gate_guard (by rfl) ?_; dsimp only)); refine bx_ 4 #[.int .i64 0, .int .i64 0] 58 ?_; intro gb106 hg w45 hbox hb; have BK106 := Aside0.mk hbox; have GW106 := gs_ hg; have GE106 := gs_ hg; replace HB := hs_ hb; clear hb hbox hg; obtain ⟨hcz46_0, hcz46_1, hfz46_0, hfz46_1⟩ := c2_ BK106.out) | (go_at_call 25; (with_reducible refine (rate_Right.calls ((rd_T58 l0 x7_1).f1) false _ A41.out).mono ?_); rintro e w' ⟨rfl, ⟨nd, rfl⟩⟩; (try first | exact ⟨rfl, _, World.drewN_drewN _ _ _⟩ | exact ⟨rfl, _, Eq.trans (World.drewN_drewN _ _ _) (congrArg (World.drewN _) (Nat.add_assoc _ _ _))⟩))))
         go_ret
         exact ⟨se_, bl_⟩
     ·rw [if_neg c4] at H
      exact absurd H (by simp)
    ·rw [if_neg c3] at H
     exact absurd H (by simp)
   ·rw [if_neg c2] at H
    have c2b0 : decide (x7_1 < (l0.length : Int)) = false := decide_eq_false c2
    clear c2
    by_cases c47 : (l0.length : Int) ≥ 1
    ·rw [if_pos c47] at H
     have c47b0 : decide (1 ≤ (l0.length : Int)) = true := decide_eq_true c47
     have c47b1 : decide (1 ≤ l0.length) = true := decide_eq_true (by omega)
     clear c47
     obtain rfl := Option.some.inj H
     go_wp2
     repeat (go_quiet (fail); try go_wp2)
     go_ret
     exact ⟨se_, bl_⟩
    ·rw [if_neg c47] at H
     have c47b0 : decide (1 ≤ (l0.length : Int)) = false := decide_eq_false c47
     have c47b1 : decide (1 ≤ l0.length) = false := decide_eq_false (by omega)
     clear c47
     obtain rfl := Option.some.inj H
     go_wp2
     repeat (go_quiet (fail); try go_wp2)
     go_ret
     exact ⟨se_, bl_⟩

/-! ### withhold_Fund_33: function 33 -/
def withhold_Fund_33.l0 : Nat → List (S41) → Int → Int → Option (Int)
  | 0, _, _, _ => none
  | k + 1, x0, x7, x8 => if x8 < x7 then (if 0 ≤ x8 then (if x8 < (x0.length : Int) then ((withhold_Right_1.f ((rd_T41 x0 x8).f0) ((rd_T41 x0 x8).f1) ((rd_T41 x0 x8).f2)).bind fun t114 => (if t114 = true then (some x8) else (withhold_Fund_33.l0 k x0 x7 (wrap64 (x8 + 1))))) else (none)) else (none)) else (some (-1))
def withhold_Fund_33.f (k : Nat) (l0 : List (S41)) : Option (Int) := withhold_Fund_33.l0 k l0 (l0.length : Int) 0
set_option maxHeartbeats 8000000 in
set_option maxRecDepth 100000 in
theorem withhold_Fund_33.calls (k : Nat) (A0 : Option Addr) (c0 : Nat) (l0 : List (S41)) (r : Int) (w : World) (hr0 : Kd.C k41 w A0 l0.length l0) (hc0 : l0.length ≤ c0) (h : withhold_Fund_33.f k l0 = some r) :
    Calls Try.prog 33 #[.slice A0 l0.length c0, .func (.func 24) #[] #[]] w fun e w' => e = .returned (.int .i64 r) ∧ Below w.heap.size w w' := by
 have hu41 := Try.underlying41
 have HR0 := Aside0.mk hr0
 have HC0 := Aside0.mk hc0
 clear hr0 hc0
 have HB := Aside0.mk (Below.refl w.heap.size w)
 have H : (withhold_Fund_33.l0 k l0 (l0.length : Int) 0) = some r := h
 clear h
 have H' := Aside0.mk H
 clear H
 go_enter Try.func33, Try.ntmps33
 go_wp2
 go_loopg [8] k (fun kq v8 w' => ∃ (x8_1 : Int), v8 = .int .i64 x8_1 ∧ Aside0 (withhold_Fund_33.l0 kq l0 (l0.length : Int) x8_1 = some r) ∧ Aside0 (kq ≤ k) ∧ Aside0 (Below w.heap.size w w'))
 case atStart => exact ⟨(0), sm_, H', ⟨Nat.le_refl _⟩, ⟨bl_⟩⟩
 case round =>
  clear H'
  obtain ⟨x8_1, rfl, HA, HK1, HB⟩ := hrel
  cases gk with
  | zero => exact absurd HA.out (by simp [withhold_Fund_33.l0])
  | succ k1 =>
   have H := HA.out
   clear HA
   simp only [withhold_Fund_33.l0] at H
   by_cases c2 : x8_1 < (l0.length : Int)
   ·rw [if_pos c2] at H
    have c2b0 : decide (x8_1 < (l0.length : Int)) = true := decide_eq_true c2
    clear c2
    by_cases c3 : 0 ≤ x8_1
    ·rw [if_pos c3] at H
     have c3b0 : decide (0 ≤ x8_1) = true := decide_eq_true c3
     clear c3
     by_cases c4 : x8_1 < (l0.length : Int)
     ·rw [if_pos c4] at H
      have c4b0 : decide (x8_1 < (l0.length : Int)) = true := decide_eq_true c4
      clear c4
      replace H := Option.bind_eq_some_iff.mp H
      obtain ⟨t114, A50, H⟩ := H
      (try dsimp only at H)
      have A5 := Aside0.mk A50
      clear A50
      by_cases c6 : t114 = true
      ·subst c6
       rw [if_pos rfl] at H
       obtain rfl := Option.some.inj H
       have p113 : 0 ≤ (x8_1 : Int) := od_
       have q113 : x8_1 < (l0.length : Int) := od_
       obtain ⟨ad113, e113, hx113_0, hx113_1, hx113_2⟩ := at_T41 HR0.out x8_1 p113 q113
       cases e113
       replace hx113_0 := (HB.out.cell (World.block_lt_of_cell? w _ hx113_0)).trans hx113_0
       replace hx113_1 := (HB.out.cell (World.block_lt_of_cell? w _ hx113_1)).trans hx113_1
       replace hx113_2 := (HB.out.cell (World.block_lt_of_cell? w _ hx113_2)).trans hx113_2
       replace p113 := eq_true p113
       replace q113 := eq_true q113
       go_wp2_with (first | ((with_reducible refine (withhold_Right_1.calls ((rd_T41 l0 x8_1).f0) ((rd_T41 l0 x8_1).f1) ((rd_T41 l0 x8_1).f2) true _ A5.out).mono ?_); rintro e w7 ⟨rfl, hb⟩; replace HB := hs_ hb; (try clear hb); (try clear hb2); (try clear hk); (try clear hi)))
       go_ret
       exact ⟨se_, bl_⟩
      ·replace c6 := Bool.eq_false_iff.mpr c6
       subst c6
       rw [if_neg (show ¬ (false = true) by decide)] at H
       have H' := Aside0.mk H
       clear H
       have p113 : 0 ≤ (x8_1 : Int) := od_
       have q113 : x8_1 < (l0.length : Int) := od_
       obtain ⟨ad113, e113, hx113_0, hx113_1, hx113_2⟩ := at_T41 HR0.out x8_1 p113 q113
       cases e113
       replace hx113_0 := (HB.out.cell (World.block_lt_of_cell? w _ hx113_0)).trans hx113_0
       replace hx113_1 := (HB.out.cell (World.block_lt_of_cell? w _ hx113_1)).trans hx113_1
       replace hx113_2 := (HB.out.cell (World.block_lt_of_cell? w _ hx113_2)).trans hx113_2
       replace p113 := eq_true p113
       replace q113 := eq_true q113
       go_wp2_with (first | ((with_reducible refine (withhold_Right_1.calls ((rd_T41 l0 x8_1).f0) ((rd_T41 l0 x8_1).f1) ((rd_T41 l0 x8_1).f2) false _ A5.out).mono ?_); rintro e w8 ⟨rfl, hb⟩; replace HB := hs_ hb; (try clear hb); (try clear hb2); (try clear hk); (try clear hi)))
       go_roundg k1
       case measure => have := HK1.out; omega
       case rel => exact ⟨(wrap64 (x8_1 + 1)), sm_, H', ⟨by have := HK1.out; omega⟩, ⟨bl_⟩⟩
     ·rw [if_neg c4] at H
      exact absurd H (by simp)
    ·rw [if_neg c3] at H
     exact absurd H (by simp)
   ·rw [if_neg c2] at H
    have c2b0 : decide (x8_1 < (l0.length : Int)) = false := decide_eq_false c2
    clear c2
    obtain rfl := Option.some.inj H
    go_wp2
    go_ret
    exact ⟨se_, bl_⟩

/-! ### withhold_Fund_23: function 23 -/
def withhold_Fund_23.f (k : Nat) (l0 : List (S41)) : Option (Bool) := (withhold_Fund_33.f k l0).bind fun t115 => (some (decide (t115 ≥ 0)))
set_option maxHeartbeats 8000000 in
set_option maxRecDepth 100000 in
theorem withhold_Fund_23.calls (k : Nat) (A0 : Option Addr) (c0 : Nat) (l0 : List (S41)) (r : Bool) (w : World) (hr0 : Kd.C k41 w A0 l0.length l0) (hc0 : l0.length ≤ c0) (h : withhold_Fund_23.f k l0 = some r) :
    Calls Try.prog 23 #[.slice A0 l0.length c0, .func (.func 24) #[] #[]] w fun e w' => e = .returned (.bool r) ∧ Below w.heap.size w w' := by
 have HR0 := Aside0.mk hr0
 have HC0 := Aside0.mk hc0
 clear hr0 hc0
 have HB := Aside0.mk (Below.refl w.heap.size w)
 have H : ((withhold_Fund_33.f k l0).bind fun t115 => (some (decide (t115 ≥ 0)))) = some r := h
 clear h
 replace H := Option.bind_eq_some_iff.mp H
 obtain ⟨t115, A20, H⟩ := H
 (try dsimp only at H)
 have A2 := Aside0.mk A20
 clear A20
 obtain rfl := Option.some.inj H
 go_enter Try.func23, Try.ntmps23
 go_wp2_with (first | ((with_reducible refine gate_callee (f := 33) rfl ?_); refine goesL_ (some 7) rfl rfl Try.func33 (by kernel_rfl) rfl #[.slice A0 l0.length c0, .func (.func 24) #[] #[]] rfl ga_ ?_; (with_reducible refine (withhold_Fund_33.calls k _ _ l0 t115 _ ?side1 ?side2 A2.out).mono ?_); (case side1 => repeat (first | exact HR0.out | (with_reducible refine Kd.C_alloc ?_ _) | (with_reducible refine Kd.C_drewN ?_ _) | (with_reducible refine Kd.C_drew ?_))); (case side2 => exact HC0.out); rintro e w3 ⟨rfl, hb⟩; refine ⟨_, rfl, ?_⟩; replace HB := hs_ hb; (try clear hb); (try clear hb2); (try clear hk); (try clear hi)))
 go_ret
 exact ⟨se_, bl_⟩

/-! ### withhold_Right: function 12 -/
def withhold_Right.f (k : Nat) (l0_0 : List (S58)) (l0_1 : List (S41)) : Option (Bool) := (brackets_Right.f k l0_0).bind fun t117 => (if t117 = true then (if (l0_1.length : Int) ≤ 6 then ((withhold_Fund_23.f k l0_1).bind fun t118 => (some (!t118))) else (some false)) else (some false))
set_option maxHeartbeats 8000000 in
set_option maxRecDepth 100000 in
theorem withhold_Right.calls (k : Nat) (A0_0 : Option Addr) (c0_0 : Nat) (l0_0 : List (S58)) (A0_1 : Option Addr) (c0_1 : Nat) (l0_1 : List (S41)) (r : Bool) (w : World) (hr0_0 : Kd.C k58 w A0_0 l0_0.length l0_0) (hc0_0 : l0_0.length ≤ c0_0) (hr0_1 : Kd.C k41 w A0_1 l0_1.length l0_1) (hc0_1 : l0_1.length ≤ c0_1) (h : withhold_Right.f k l0_0 l0_1 = some r) :
    Calls Try.prog 12 #[.agg #[.slice A0_0 l0_0.length c0_0, .slice A0_1 l0_1.length c0_1]] w fun e w' => e = .returned (.bool r) ∧ Below w.heap.size w w' := by
 have hu25 := Try.underlying25
 have HR0_0 := Aside0.mk hr0_0
 have HC0_0 := Aside0.mk hc0_0
 clear hr0_0 hc0_0
 have HR0_1 := Aside0.mk hr0_1
 have HC0_1 := Aside0.mk hc0_1
 clear hr0_1 hc0_1
 have HB := Aside0.mk (Below.refl w.heap.size w)
 have H : ((brackets_Right.f k l0_0).bind fun t117 => (if t117 = true then (if (l0_1.length : Int) ≤ 6 then ((withhold_Fund_23.f k l0_1).bind fun t118 => (some (!t118))) else (some false)) else (some false))) = some r := h
 clear h
 replace H := Option.bind_eq_some_iff.mp H
 obtain ⟨t117, A20, H⟩ := H
 (try dsimp only at H)
 have A2 := Aside0.mk A20
 clear A20
 by_cases c3 : t117 = true
 ·subst c3
  rw [if_pos rfl] at H
  by_cases c4 : (l0_1.length : Int) ≤ 6
  ·rw [if_pos c4] at H
   have c4b0 : decide ((l0_1.length : Int) ≤ 6) = true := decide_eq_true c4
   have c4b1 : decide (l0_1.length ≤ 6) = true := decide_eq_true (by omega)
   clear c4
   replace H := Option.bind_eq_some_iff.mp H
   obtain ⟨t118, A50, H⟩ := H
   (try dsimp only at H)
   have A5 := Aside0.mk A50
   clear A50
   obtain rfl := Option.some.inj H
   go_enter Try.func12, Try.ntmps12
   go_wp2_with (first | ((with_reducible refine gate_dst (N := 1) rfl ?_); (try (refine gate_guard (by rfl) ?_; dsimp only)); refine bx_ 1 #[.slice A0_0 l0_0.length c0_0, .slice A0_1 l0_1.length c0_1] 25 ?_; intro gb116 hg w6 hbox hb; have BK116 := Aside0.mk hbox; have GW116 := gs_ hg; have GE116 := gs_ hg; replace HB := hs_ hb; clear hb hbox hg; obtain ⟨hcz7_0, hcz7_1, hfz7_0, hfz7_1⟩ := c2_ BK116.out) | ((with_reducible refine gate_callee (f := 22) rfl ?_); refine goesL_ (some 5) rfl rfl Try.func22 (by kernel_rfl) rfl #[.slice A0_0 l0_0.length c0_0] rfl ga_ ?_; (with_reducible refine (brackets_Right.calls k _ _ l0_0 true _ ?side1 ?side2 A2.out).mono ?_); (case side1 => exact kc_ (Kd.C_below HR0_0.out HB.out)); (case side2 => exact HC0_0.out); rintro e w8 ⟨rfl, hb⟩; refine ⟨_, rfl, ?_⟩; replace BK116 := bb_ BK116.out hb; replace HB := hs_ hb; (try clear hb); (try clear hb2); (try clear hk); (try clear hi); obtain ⟨hcz9_0, hcz9_1, hfz9_0, hfz9_1⟩ := c2_ BK116.out) | (go_at_call 23; (with_reducible refine (withhold_Fund_23.calls k _ _ l0_1 t118 _ ?side1 ?side2 A5.out).mono ?_); (case side1 => exact kc_ (Kd.C_below HR0_1.out HB.out)); (case side2 => exact HC0_1.out); rintro e w10 ⟨rfl, hb⟩; replace BK116 := bb_ BK116.out hb; replace HB := hs_ hb; (try clear hb); (try clear hb2); (try clear hk); (try clear hi)))
   go_ret
   exact ⟨se_, bl_⟩
  ·rw [if_neg c4] at H
   have c4b0 : decide ((l0_1.length : Int) ≤ 6) = false := decide_eq_false c4
   have c4b1 : decide (l0_1.length ≤ 6) = false := decide_eq_false (by omega)
   clear c4
   obtain rfl := Option.some.inj H
   go_enter Try.func12, Try.ntmps12
   go_wp2_with (first | ((with_reducible refine gate_dst (N := 1) rfl ?_); (try (refine gate_guard (by rfl) ?_; dsimp only)); refine bx_ 1 #[.slice A0_0 l0_0.length c0_0, .slice A0_1 l0_1.length c0_1] 25 ?_; intro gb116 hg w11 hbox hb; have BK116 := Aside0.mk hbox; have GW116 := gs_ hg; have GE116 := gs_ hg; replace HB := hs_ hb; clear hb hbox hg; obtain ⟨hcz12_0, hcz12_1, hfz12_0, hfz12_1⟩ := c2_ BK116.out) | ((with_reducible refine gate_callee (f := 22) rfl ?_); refine goesL_ (some 5) rfl rfl Try.func22 (by kernel_rfl) rfl #[.slice A0_0 l0_0.length c0_0] rfl ga_ ?_; (with_reducible refine (brackets_Right.calls k _ _ l0_0 true _ ?side1 ?side2 A2.out).mono ?_); (case side1 => exact kc_ (Kd.C_below HR0_0.out HB.out)); (case side2 => exact HC0_0.out); rintro e w13 ⟨rfl, hb⟩; refine ⟨_, rfl, ?_⟩; replace BK116 := bb_ BK116.out hb; replace HB := hs_ hb; (try clear hb); (try clear hb2); (try clear hk); (try clear hi); obtain ⟨hcz14_0, hcz14_1, hfz14_0, hfz14_1⟩ := c2_ BK116.out))
   go_ret
   exact ⟨se_, bl_⟩
 ·replace c3 := Bool.eq_false_iff.mpr c3
  subst c3
  rw [if_neg (show ¬ (false = true) by decide)] at H
  obtain rfl := Option.some.inj H
  go_enter Try.func12, Try.ntmps12
  go_wp2_with (first | ((with_reducible refine gate_dst (N := 1) rfl ?_); (try (refine gate_guard (by rfl) ?_; dsimp only)); refine bx_ 1 #[.slice A0_0 l0_0.length c0_0, .slice A0_1 l0_1.length c0_1] 25 ?_; intro gb116 hg w15 hbox hb; have BK116 := Aside0.mk hbox; have GW116 := gs_ hg; have GE116 := gs_ hg; replace HB := hs_ hb; clear hb hbox hg; obtain ⟨hcz16_0, hcz16_1, hfz16_0, hfz16_1⟩ := c2_ BK116.out) | ((with_reducible refine gate_callee (f := 22) rfl ?_); refine goesL_ (some 5) rfl rfl Try.func22 (by kernel_rfl) rfl #[.slice A0_0 l0_0.length c0_0] rfl ga_ ?_; (with_reducible refine (brackets_Right.calls k _ _ l0_0 false _ ?side1 ?side2 A2.out).mono ?_); (case side1 => exact kc_ (Kd.C_below HR0_0.out HB.out)); (case side2 => exact HC0_0.out); rintro e w17 ⟨rfl, hb⟩; refine ⟨_, rfl, ?_⟩; replace BK116 := bb_ BK116.out hb; replace HB := hs_ hb; (try clear hb); (try clear hb2); (try clear hk); (try clear hi)))
  go_ret
  exact ⟨se_, bl_⟩

/-! ### slices_IndexFunc_int_int: function 38 -/
def slices_IndexFunc_int_int.l0 : Nat → List Int → Int → Int → Option (Int)
  | 0, _, _, _ => none
  | k + 1, x0, x7, x8 => if x8 < x7 then (if 0 ≤ x8 then (if x8 < (x0.length : Int) then ((withhold_far_1.f (rd x0 x8)).bind fun t120 => (if t120 = true then (some x8) else (slices_IndexFunc_int_int.l0 k x0 x7 (wrap64 (x8 + 1))))) else (none)) else (none)) else (some (-1))
def slices_IndexFunc_int_int.f (k : Nat) (l0 : List Int) : Option (Int) := slices_IndexFunc_int_int.l0 k l0 (l0.length : Int) 0
set_option maxHeartbeats 8000000 in
set_option maxRecDepth 100000 in
theorem slices_IndexFunc_int_int.calls (k : Nat) (A0 : Option Addr) (c0 : Nat) (l0 : List Int) (r : Int) (w : World) (hr0 : Kd.C (Kd.int .i64) w A0 l0.length l0) (hc0 : l0.length ≤ c0) (h : slices_IndexFunc_int_int.f k l0 = some r) :
    Calls Try.prog 38 #[.slice A0 l0.length c0, .func (.func 32) #[] #[]] w fun e w' => e = .returned (.int .i64 r) ∧ Drawn0 w w' := by
 have HR0 := Aside0.mk hr0
 have HC0 := Aside0.mk hc0
 clear hr0 hc0
 have H : (slices_IndexFunc_int_int.l0 k l0 (l0.length : Int) 0) = some r := h
 clear h
 have H' := Aside0.mk H
 clear H
 go_enter Try.func38, Try.ntmps38
 go_wp2
 go_loopg [8] k (fun kq v8 w' => ∃ (x8_1 : Int), v8 = .int .i64 x8_1 ∧ Aside0 (slices_IndexFunc_int_int.l0 kq l0 (l0.length : Int) x8_1 = some r) ∧ Aside0 (kq ≤ k) ∧ Drawn0 w w')
 case atStart => exact ⟨(0), sm_, H', ⟨Nat.le_refl _⟩, dr_⟩
 case round =>
  clear H'
  obtain ⟨x8_1, rfl, HA, HK1, ⟨m1, rfl⟩⟩ := hrel
  cases gk with
  | zero => exact absurd HA.out (by simp [slices_IndexFunc_int_int.l0])
  | succ k1 =>
   have H := HA.out
   clear HA
   simp only [slices_IndexFunc_int_int.l0] at H
   by_cases c2 : x8_1 < (l0.length : Int)
   ·rw [if_pos c2] at H
    have c2b0 : decide (x8_1 < (l0.length : Int)) = true := decide_eq_true c2
    clear c2
    by_cases c3 : 0 ≤ x8_1
    ·rw [if_pos c3] at H
     have c3b0 : decide (0 ≤ x8_1) = true := decide_eq_true c3
     clear c3
     by_cases c4 : x8_1 < (l0.length : Int)
     ·rw [if_pos c4] at H
      have c4b0 : decide (x8_1 < (l0.length : Int)) = true := decide_eq_true c4
      clear c4
      replace H := Option.bind_eq_some_iff.mp H
      obtain ⟨t120, A50, H⟩ := H
      (try dsimp only at H)
      have A5 := Aside0.mk A50
      clear A50
      by_cases c6 : t120 = true
      ·subst c6
       rw [if_pos rfl] at H
       obtain rfl := Option.some.inj H
       have p119 : 0 ≤ (x8_1 : Int) := od_
       have q119 : x8_1 < (l0.length : Int) := od_
       obtain ⟨ad119, e119, hx119_0⟩ := Kd.at_int HR0.out x8_1 p119 q119
       cases e119
       replace p119 := eq_true p119
       replace q119 := eq_true q119
       go_wp2_with (first | ((with_reducible refine (withhold_far_1.calls (rd l0 x8_1) true _ A5.out).mono ?_); rintro e w' ⟨rfl, ⟨nd, rfl⟩⟩))
       go_ret
       exact ⟨sm_, dr_⟩
      ·replace c6 := Bool.eq_false_iff.mpr c6
       subst c6
       rw [if_neg (show ¬ (false = true) by decide)] at H
       have H' := Aside0.mk H
       clear H
       have p119 : 0 ≤ (x8_1 : Int) := od_
       have q119 : x8_1 < (l0.length : Int) := od_
       obtain ⟨ad119, e119, hx119_0⟩ := Kd.at_int HR0.out x8_1 p119 q119
       cases e119
       replace p119 := eq_true p119
       replace q119 := eq_true q119
       go_wp2_with (first | ((with_reducible refine (withhold_far_1.calls (rd l0 x8_1) false _ A5.out).mono ?_); rintro e w' ⟨rfl, ⟨nd, rfl⟩⟩))
       go_roundg k1
       case measure => have := HK1.out; omega
       case rel => exact ⟨(wrap64 (x8_1 + 1)), sm_, H', ⟨by have := HK1.out; omega⟩, dr_⟩
     ·rw [if_neg c4] at H
      exact absurd H (by simp)
    ·rw [if_neg c3] at H
     exact absurd H (by simp)
   ·rw [if_neg c2] at H
    have c2b0 : decide (x8_1 < (l0.length : Int)) = false := decide_eq_false c2
    clear c2
    obtain rfl := Option.some.inj H
    go_wp2
    go_ret
    exact ⟨sm_, dr_⟩

end Go.Proofs.Ytocaneaofdbpoaa.PA
