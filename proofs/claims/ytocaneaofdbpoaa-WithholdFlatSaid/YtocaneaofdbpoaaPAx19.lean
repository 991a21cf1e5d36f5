/- Contracts of the functions of the given program: written by wip/pmprint.py, a program of this session, which runs the print of the kit over altered functions. -/
import Derived.Test.YtocaneaofdbpoaaPAx0
import Derived.Test.YtocaneaofdbpoaaPAx5
import Derived.Test.YtocaneaofdbpoaaPAx8
namespace Go.Proofs.Ytocaneaofdbpoaa.PA
open Go.RowKit Go.Proofs.YtocaneaofdbpoaaW.PrintWords Go.Proofs.YtocaneaofdbpoaaW.PrintLast Go.Proofs.YtocaneaofdbpoaaW.PrintMore
attribute [local go_sem] max2_int min2_int max_two min_two max_three min_three max_four min_four   -- for this text's walks alone
set_option linter.unusedVariables false
set_option linter.unusedSimpArgs false

/-! ### paymasterlaw14_WithholdFlat: function 8 -/
def paymasterlaw14_WithholdFlat.f (k : Nat) (a0 : Int) (a1 : Int) (a2 : Int) (a3 : Int) (a4 : Int) : Option (Bool) := (withhold_Due.f k (([(⟨0, wrap64 (Int.tmod a0 10001)⟩ : S58)] : List (S58))) (([(⟨wrap64 (Int.tmod a1 10001), wrap64 (Int.tmod a1 10001), wrap64 (Int.tmod a4 1099511627776)⟩ : S41)] : List (S41))) (wrap64 (Int.tmod a2 1099511627776)) (wrap64 (Int.tmod a3 1099511627776))).bind fun bt522 => (if bt522.2.2.2.2.2 = 0 then (if (bt522.2.2.2.1.length : Int) = 1 then (if (bt522.2.2.2.2.1.length : Int) = 1 then (if bt522.2.2.1 = (wrap64 (Int.tdiv (wrap64 ((wrap64 (Int.tmod a2 1099511627776)) * (wrap64 (Int.tmod a0 10001)))) 10000)) then (if 0 < (bt522.2.2.2.1.length : Int) then (if (rd bt522.2.2.2.1 0) = (wrap64 (Int.tdiv (wrap64 ((mn (wrap64 (Int.tmod a3 1099511627776)) (wrap64 (Int.tmod a4 1099511627776))) * (wrap64 (Int.tmod a1 10001)))) 10000)) then (if 0 < (bt522.2.2.2.2.1.length : Int) then (if (rd bt522.2.2.2.2.1 0) = (rd bt522.2.2.2.1 0) then (if bt522.1 = (wrap64 (Int.tmod a2 1099511627776)) then (if bt522.2.1 = (wrap64 (Int.tmod a3 1099511627776)) then ((paymasterlaw14_awake.f k).bind fun t536 => (some t536)) else (none)) else (none)) else (none)) else (none)) else (none)) else (none)) else (none)) else (none)) else (none)) else (none))
def paymasterlaw14_WithholdFlat.T8 : Bool × List (List Nat × List Nat) := (true, [([], []), ([0], [0]), ([], []), ([], []), ([2, 3], [2, 3]), ([4], [4]), ([1, 5], [1, 5]), ([6], [6]), ([7], [7]), ([8, 7], [7, 8]), ([9, 7], [7, 9]), ([10, 7], [7, 10]), ([7], [7]), ([7], [7]), ([12, 13, 7], [7, 12, 13]), ([14, 7], [7, 14]), ([11, 15, 7], [7, 11, 15]), ([7, 16], [7, 16]), ([17, 7], [17]), ([18], [18]), ([19, 18], [18, 19]), ([20, 18], [18, 20]), ([21, 18], [18, 21]), ([18], [18]), ([23, 18], [18, 23]), ([24, 18], [18, 24]), ([25, 18], [18, 25]), ([22, 26, 18], [18, 22, 26]), ([18, 27], [18, 27]), ([28, 18], [28]), ([29], [29]), ([30, 29], [29, 30]), ([29], [29]), ([31, 32, 29], [29, 31, 32]), ([29, 33], [29, 33]), ([34, 29], [34]), ([35], [35]), ([36, 35], [35, 36]), ([35], [35]), ([37, 38, 35], [35, 37, 38]), ([35, 39], [35, 39]), ([40, 35], [40]), ([41, 41], [41]), ([41, 42], [41, 42]), ([43, 42, 0, 1, 2, 3, 4, 5, 6, 7, 8, 9, 10, 11, 12, 13, 14, 15, 16, 17, 18, 19, 20, 21, 22, 23, 24, 25, 26, 27, 28, 29, 30, 31, 32, 33, 34, 35, 36, 37, 38, 39, 40, 41, 42, 43], [43])])
def paymasterlaw14_WithholdFlat.B8 : List Nat := [0, 1, 0, 0, 12, 28, 63, 127, 255, 511, 1023, 2047, 255, 255, 12543, 28927, 65535, 131071, 262143, 524287, 1048575, 2097151, 4194303, 524287, 8912895, 25690111, 59244543, 134217727, 268435455, 536870911, 1073741823, 2147483647, 1073741823, 8589934591, 17179869183, 34359738367, 68719476735, 137438953471, 68719476735, 549755813887, 1099511627775, 2199023255551, 4398046511103, 8796093022207, 17592186044415]
theorem paymasterlaw14_WithholdFlat.tab8 : rtab .any (opsOf Try.f8 8) = paymasterlaw14_WithholdFlat.T8 := by kernel_rfl
theorem paymasterlaw14_WithholdFlat.bits8 : waitsOk paymasterlaw14_WithholdFlat.T8.2 paymasterlaw14_WithholdFlat.B8 = true := by kernel_rfl
set_option maxHeartbeats 8000000 in
set_option maxRecDepth 100000 in
theorem paymasterlaw14_WithholdFlat.calls (k : Nat) (a0 : Int) (a1 : Int) (a2 : Int) (a3 : Int) (a4 : Int) (r : Bool) (w : World) (h : paymasterlaw14_WithholdFlat.f k a0 a1 a2 a3 a4 = some r) :
    Calls Try.prog 8 #[.int .u16 a0, .int .u16 a1, .int .u64 a2, .int .u64 a3, .int .u64 a4] w fun e w' => e = .returned (.bool r) ∧ Below w.heap.size w w' := by
  have hu58 := Try.underlying58
  have hu41 := Try.underlying41
  have hu25 := Try.underlying25
  have hu30 := Try.underlying30
  have HB := Aside0.mk (Below.refl w.heap.size w)
  have H : ((withhold_Due.f k (([(⟨0, wrap64 (Int.tmod a0 10001)⟩ : S58)] : List (S58))) (([(⟨wrap64 (Int.tmod a1 10001), wrap64 (Int.tmod a1 10001), wrap64 (Int.tmod a4 1099511627776)⟩ : S41)] : List (S41))) (wrap64 (Int.tmod a2 1099511627776)) (wrap64 (Int.tmod a3 1099511627776))).bind fun bt522 => (if bt522.2.2.2.2.2 = 0 then (if (bt522.2.2.2.1.length : Int) = 1 then (if (bt522.2.2.2.2.1.length : Int) = 1 then (if bt522.2.2.1 = (wrap64 (Int.tdiv (wrap64 ((wrap64 (Int.tmod a2 1099511627776)) * (wrap64 (Int.tmod a0 10001)))) 10000)) then (if 0 < (bt522.2.2.2.1.length : Int) then (if (rd bt522.2.2.2.1 0) = (wrap64 (Int.tdiv (wrap64 ((mn (wrap64 (Int.tmod a3 1099511627776)) (wrap64 (Int.tmod a4 1099511627776))) * (wrap64 (Int.tmod a1 10001)))) 10000)) then (if 0 < (bt522.2.2.2.2.1.length : Int) then (if (rd bt522.2.2.2.2.1 0) = (rd bt522.2.2.2.1 0) then (if bt522.1 = (wrap64 (Int.tmod a2 1099511627776)) then (if bt522.2.1 = (wrap64 (Int.tmod a3 1099511627776)) then ((paymasterlaw14_awake.f k).bind fun t536 => (some t536)) else (none)) else (none)) else (none)) else (none)) else (none)) else (none)) else (none)) else (none)) else (none)) else (none))) = some r := h
  clear h
  obtain ⟨y515, hy515⟩ : ∃ y_ : List (S58), y_ = (([(⟨0, wrap64 (Int.tmod a0 10001)⟩ : S58)] : List (S58))) := ⟨_, rfl⟩
  replace H : ((withhold_Due.f k y515 (([(⟨wrap64 (Int.tmod a1 10001), wrap64 (Int.tmod a1 10001), wrap64 (Int.tmod a4 1099511627776)⟩ : S41)] : List (S41))) (wrap64 (Int.tmod a2 1099511627776)) (wrap64 (Int.tmod a3 1099511627776))).bind fun bt522 => (if bt522.2.2.2.2.2 = 0 then (if (bt522.2.2.2.1.length : Int) = 1 then (if (bt522.2.2.2.2.1.length : Int) = 1 then (if bt522.2.2.1 = (wrap64 (Int.tdiv (wrap64 ((wrap64 (Int.tmod a2 1099511627776)) * (wrap64 (Int.tmod a0 10001)))) 10000)) then (if 0 < (bt522.2.2.2.1.length : Int) then (if (rd bt522.2.2.2.1 0) = (wrap64 (Int.tdiv (wrap64 ((mn (wrap64 (Int.tmod a3 1099511627776)) (wrap64 (Int.tmod a4 1099511627776))) * (wrap64 (Int.tmod a1 10001)))) 10000)) then (if 0 < (bt522.2.2.2.2.1.length : Int) then (if (rd bt522.2.2.2.2.1 0) = (rd bt522.2.2.2.1 0) then (if bt522.1 = (wrap64 (Int.tmod a2 1099511627776)) then (if bt522.2.1 = (wrap64 (Int.tmod a3 1099511627776)) then ((paymasterlaw14_awake.f k).bind fun t536 => (some t536)) else (none)) else (none)) else (none)) else (none)) else (none)) else (none)) else (none)) else (none)) else (none)) else (none))) = some r := by first | (rw [hy515]; with_reducible exact H) | (have H2_ := (Option.bind_some _ _).symm.trans H; rw [hy515]; with_reducible exact H2_) | (have H2_ := (Option.bind_some _ _).symm.trans H; with_reducible exact H2_) | with_reducible exact H | (rw [hy515]; exact H) | exact H
  have Ny515 := Aside0.mk hy515
  clear hy515
  obtain ⟨y518, hy518⟩ : ∃ y_ : List (S41), y_ = (([(⟨wrap64 (Int.tmod a1 10001), wrap64 (Int.tmod a1 10001), wrap64 (Int.tmod a4 1099511627776)⟩ : S41)] : List (S41))) := ⟨_, rfl⟩
  replace H : ((withhold_Due.f k y515 y518 (wrap64 (Int.tmod a2 1099511627776)) (wrap64 (Int.tmod a3 1099511627776))).bind fun bt522 => (if bt522.2.2.2.2.2 = 0 then (if (bt522.2.2.2.1.length : Int) = 1 then (if (bt522.2.2.2.2.1.length : Int) = 1 then (if bt522.2.2.1 = (wrap64 (Int.tdiv (wrap64 ((wrap64 (Int.tmod a2 1099511627776)) * (wrap64 (Int.tmod a0 10001)))) 10000)) then (if 0 < (bt522.2.2.2.1.length : Int) then (if (rd bt522.2.2.2.1 0) = (wrap64 (Int.tdiv (wrap64 ((mn (wrap64 (Int.tmod a3 1099511627776)) (wrap64 (Int.tmod a4 1099511627776))) * (wrap64 (Int.tmod a1 10001)))) 10000)) then (if 0 < (bt522.2.2.2.2.1.length : Int) then (if (rd bt522.2.2.2.2.1 0) = (rd bt522.2.2.2.1 0) then (if bt522.1 = (wrap64 (Int.tmod a2 1099511627776)) then (if bt522.2.1 = (wrap64 (Int.tmod a3 1099511627776)) then ((paymasterlaw14_awake.f k).bind fun t536 => (some t536)) else (none)) else (none)) else (none)) else (none)) else (none)) else (none)) else (none)) else (none)) else (none)) else (none))) = some r := by first | (rw [hy518]; with_reducible exact H) | (have H2_ := (Option.bind_some _ _).symm.trans H; rw [hy518]; with_reducible exact H2_) | (have H2_ := (Option.bind_some _ _).symm.trans H; with_reducible exact H2_) | with_reducible exact H | (rw [hy518]; exact H) | exact H
  have Ny518 := Aside0.mk hy518
  clear hy518
  replace H := Option.bind_eq_some_iff.mp H
  obtain ⟨⟨t522, t523, t524, t525, t528, t531⟩, A60, H⟩ := H
  replace H : (if t531 = 0 then (if (t525.length : Int) = 1 then (if (t528.length : Int) = 1 then (if t524 = (wrap64 (Int.tdiv (wrap64 ((wrap64 (Int.tmod a2 1099511627776)) * (wrap64 (Int.tmod a0 10001)))) 10000)) then (if 0 < (t525.length : Int) then (if (rd t525 0) = (wrap64 (Int.tdiv (wrap64 ((mn (wrap64 (Int.tmod a3 1099511627776)) (wrap64 (Int.tmod a4 1099511627776))) * (wrap64 (Int.tmod a1 10001)))) 10000)) then (if 0 < (t528.length : Int) then (if (rd t528 0) = (rd t525 0) then (if t522 = (wrap64 (Int.tmod a2 1099511627776)) then (if t523 = (wrap64 (Int.tmod a3 1099511627776)) then ((paymasterlaw14_awake.f k).bind fun t536 => (some t536)) else (none)) else (none)) else (none)) else (none)) else (none)) else (none)) else (none)) else (none)) else (none)) else (none)) = some r := H
  have A6 := Aside0.mk A60
  clear A60
  by_cases c7 : t531 = 0
  · rw [if_pos c7] at H
    have c7b0 : (t531 == 0) = true := beq_iff_eq.mpr c7
    have c7b1 : (t531 != 0) = false := bne_eq_false_iff_eq.mpr c7
    clear c7
    by_cases c8 : (t525.length : Int) = 1
    · rw [if_pos c8] at H
      have c8b0 : ((t525.length : Int) == 1) = true := beq_iff_eq.mpr c8
      have c8b1 : ((t525.length : Int) != 1) = false := bne_eq_false_iff_eq.mpr c8
      clear c8
      by_cases c9 : (t528.length : Int) = 1
      · rw [if_pos c9] at H
        have c9b0 : ((t528.length : Int) == 1) = true := beq_iff_eq.mpr c9
        have c9b1 : ((t528.length : Int) != 1) = false := bne_eq_false_iff_eq.mpr c9
        clear c9
        obtain ⟨ji10, hji10⟩ : ∃ j_ : Int, (mn (wrap64 (Int.tmod a3 1099511627776)) (wrap64 (Int.tmod a4 1099511627776))) = j_ := ⟨_, rfl⟩
        replace H : (if t524 = (wrap64 (Int.tdiv (wrap64 ((wrap64 (Int.tmod a2 1099511627776)) * (wrap64 (Int.tmod a0 10001)))) 10000)) then (if 0 < (t525.length : Int) then (if (rd t525 0) = (wrap64 (Int.tdiv (wrap64 ((ji10) * (wrap64 (Int.tmod a1 10001)))) 10000)) then (if 0 < (t528.length : Int) then (if (rd t528 0) = (rd t525 0) then (if t522 = (wrap64 (Int.tmod a2 1099511627776)) then (if t523 = (wrap64 (Int.tmod a3 1099511627776)) then ((paymasterlaw14_awake.f k).bind fun t536 => (some t536)) else (none)) else (none)) else (none)) else (none)) else (none)) else (none)) else (none)) = some r := by first | (rw [hji10] at H; exact H) | (simp only [hji10] at H ⊢; exact H)
        (try rw [hji10] at A6)
        have hji10_ : (if (wrap64 (Int.tmod a4 1099511627776)) < (wrap64 (Int.tmod a3 1099511627776)) then (wrap64 (Int.tmod a4 1099511627776)) else (wrap64 (Int.tmod a3 1099511627776))) = ji10 := hji10
        by_cases c11 : t524 = (wrap64 (Int.tdiv (wrap64 ((wrap64 (Int.tmod a2 1099511627776)) * (wrap64 (Int.tmod a0 10001)))) 10000))
        · rw [if_pos c11] at H
          have c11b0 : (t524 == (wrap64 (Int.tdiv (wrap64 ((wrap64 (Int.tmod a2 1099511627776)) * (wrap64 (Int.tmod a0 10001)))) 10000))) = true := beq_iff_eq.mpr c11
          have c11b1 : (t524 != (wrap64 (Int.tdiv (wrap64 ((wrap64 (Int.tmod a2 1099511627776)) * (wrap64 (Int.tmod a0 10001)))) 10000))) = false := bne_eq_false_iff_eq.mpr c11
          clear c11
          by_cases c12 : 0 < (t525.length : Int)
          · rw [if_pos c12] at H
            have c12b0 : decide (0 < (t525.length : Int)) = true := decide_eq_true c12
            have c12b1 : decide (0 < t525.length) = true := decide_eq_true (by omega)
            clear c12
            by_cases c13 : (rd t525 0) = (wrap64 (Int.tdiv (wrap64 ((ji10) * (wrap64 (Int.tmod a1 10001)))) 10000))
            · rw [if_pos c13] at H
              have c13b0 : ((rd t525 0) == (wrap64 (Int.tdiv (wrap64 ((ji10) * (wrap64 (Int.tmod a1 10001)))) 10000))) = true := beq_iff_eq.mpr c13
              have c13b1 : ((rd t525 0) != (wrap64 (Int.tdiv (wrap64 ((ji10) * (wrap64 (Int.tmod a1 10001)))) 10000))) = false := bne_eq_false_iff_eq.mpr c13
              clear c13
              by_cases c14 : 0 < (t528.length : Int)
              · rw [if_pos c14] at H
                have c14b0 : decide (0 < (t528.length : Int)) = true := decide_eq_true c14
                have c14b1 : decide (0 < t528.length) = true := decide_eq_true (by omega)
                clear c14
                by_cases c15 : (rd t528 0) = (rd t525 0)
                · rw [if_pos c15] at H
                  have c15b0 : ((rd t528 0) == (rd t525 0)) = true := beq_iff_eq.mpr c15
                  have c15b1 : ((rd t528 0) != (rd t525 0)) = false := bne_eq_false_iff_eq.mpr c15
                  clear c15
                  by_cases c16 : t522 = (wrap64 (Int.tmod a2 1099511627776))
                  · rw [if_pos c16] at H
                    have c16b0 : (t522 == (wrap64 (Int.tmod a2 1099511627776))) = true := beq_iff_eq.mpr c16
                    have c16b1 : (t522 != (wrap64 (Int.tmod a2 1099511627776))) = false := bne_eq_false_iff_eq.mpr c16
                    clear c16
                    by_cases c17 : t523 = (wrap64 (Int.tmod a3 1099511627776))
                    · rw [if_pos c17] at H
                      have c17b0 : (t523 == (wrap64 (Int.tmod a3 1099511627776))) = true := beq_iff_eq.mpr c17
                      have c17b1 : (t523 != (wrap64 (Int.tmod a3 1099511627776))) = false := bne_eq_false_iff_eq.mpr c17
                      clear c17
                      replace H := Option.bind_eq_some_iff.mp H
                      obtain ⟨t536, A180, H⟩ := H
                      replace H : (some t536) = some r := H
                      have A18 := Aside0.mk A180
                      clear A180
                      obtain rfl := Option.some.inj H
                      go_enter Try.func8, Try.ntmps8
                      try go_wp2_with (first | ((with_reducible refine gate_dst (N := 37) rfl ?_); (try (refine gate_guard (by rfl) ?_; dsimp only)); refine Kd.R_lit k58 _ 58 ?hg (N := 37) ?hd (xs := ([(⟨0, wrap64 (Int.tmod a0 10001)⟩ : S58)] : List (S58))) (inner := [.int .i64 0, .int .i64 (wrap64 (Int.tmod a0 10001))]) (ok := fun _ => True) (okp := fun _ => True) ?hr ?hp (fun _ hk => hk) trivial (Below.refl _ _) (Nat.le_refl _) (by simp) ?_; (case hd => rfl); (case hg => rfl); (case hr => first | (go_simp; done) | (go_simp; rfl)); (case hp => exact (Reps.c2 (show Kd.M k58 _ _ _ (⟨0, wrap64 (Int.tmod a0 10001)⟩ : S58) [.int .i64 0, .int .i64 (wrap64 (Int.tmod a0 10001))] from (k58_mkM _ _ _ (⟨0, wrap64 (Int.tmod a0 10001)⟩ : S58) )) (Reps.none _ _))); intro v516 w19 ho20 hb hg_ hnew_; clear hg_ hnew_; (first | rw [← Ny515.out] at ho20 | (simp only [Int.reduceToNat] at ho20; rw [← Ny515.out] at ho20)); have n0_ := Aside0.mk (Kd.R_lower ho20 (below_size bl_)); have n1_ := Aside0.mk (below_step bl_ hb); clear HB; have HO517 := n0_; have HB := n1_; clear n0_ n1_; clear hb ho20) | ((with_reducible refine gate_dst (N := 42) rfl ?_); (try (refine gate_guard (by rfl) ?_; dsimp only)); refine Kd.R_lit k41 _ 41 ?hg (N := 42) ?hd (xs := ([(⟨wrap64 (Int.tmod a1 10001), wrap64 (Int.tmod a1 10001), wrap64 (Int.tmod a4 1099511627776)⟩ : S41)] : List (S41))) (inner := [.int .i64 (wrap64 (Int.tmod a1 10001)), .int .i64 (wrap64 (Int.tmod a1 10001)), .int .i64 (wrap64 (Int.tmod a4 1099511627776))]) (ok := fun _ => True) (okp := fun _ => True) ?hr ?hp (fun _ hk => hk) trivial (Below.refl _ _) (Nat.le_refl _) (by simp) ?_; (case hd => rfl); (case hg => rfl); (case hr => first | (go_simp; done) | (go_simp; rfl)); (case hp => exact (Reps.c3 (show Kd.M k41 _ _ _ (⟨wrap64 (Int.tmod a1 10001), wrap64 (Int.tmod a1 10001), wrap64 (Int.tmod a4 1099511627776)⟩ : S41) [.int .i64 (wrap64 (Int.tmod a1 10001)), .int .i64 (wrap64 (Int.tmod a1 10001)), .int .i64 (wrap64 (Int.tmod a4 1099511627776))] from (k41_mkM _ _ _ (⟨wrap64 (Int.tmod a1 10001), wrap64 (Int.tmod a1 10001), wrap64 (Int.tmod a4 1099511627776)⟩ : S41) )) (Reps.none _ _))); intro v519 w21 ho22 hb hg_ hnew_; clear hg_ hnew_; (first | rw [← Ny518.out] at ho22 | (simp only [Int.reduceToNat] at ho22; rw [← Ny518.out] at ho22)); have n0_ := Aside0.mk (Kd.R_below (by refine kr_ ?_; exact HO517.out) hb); have n1_ := Aside0.mk (Kd.R_lower ho22 (below_size bl_)); have n2_ := Aside0.mk (below_step bl_ hb); clear HO517; clear HB; have HO517 := n0_; have HO520 := n1_; have HB := n2_; clear n0_ n1_ n2_; clear hb ho22; obtain ⟨Ao23, co23, eo23⟩ := Kd.R_slice HO520.out; subst eo23; obtain ⟨Ao24, co24, eo24⟩ := Kd.R_slice HO517.out; subst eo24) | ((with_reducible refine gate_dst (N := 16) rfl ?_); (try (refine gate_guard (by rfl) ?_; dsimp only)); refine box_event ?hg (N := 16) ?hd (cs := #[.slice none 0 0, .slice none 0 0]) (t := 25) ?hr ?_; (case hd => rfl); (case hg => rfl); (case hr => first | (go_simp; done) | (go_simp; rfl)); intro gb521 hg w25 hbox hb; have n0_ := Aside0.mk (Kd.R_below (by refine kr_ ?_; exact HO517.out) hb); have n1_ := Aside0.mk (Kd.R_below (by refine kr_ ?_; exact HO520.out) hb); have n2_ := Aside0.mk (below_step bl_ hb); have n3_ := Aside0.mk (hbox); have n4_ := Aside0.mk ((by rw [hg]; exact (below_size bl_) : w.heap.size ≤ gb521)); have n5_ := Aside0.mk ((by rw [hg]; exact (below_size bl_) : w.heap.size ≤ gb521)); clear HO517; clear HO520; clear HB; have HO517 := n0_; have HO520 := n1_; have HB := n2_; have BK521 := n3_; have GW521 := n4_; have GE521 := n5_; clear n0_ n1_ n2_ n3_ n4_ n5_; clear hb hbox hg; have hcz26_0 : w25.cell? ⟨gb521, 0, none⟩ = some (.slice none 0 0) := (blk_cell BK521.out 0).trans rfl; have hcz26_1 : w25.cell? ⟨gb521, 1, none⟩ = some (.slice none 0 0) := (blk_cell BK521.out 1).trans rfl; have hfz26_0 := blk_frozen BK521.out 0; have hfz26_1 := blk_frozen BK521.out 1) | ((with_reducible refine gate_callee (f := 14) rfl ?_); refine goesL_ (some 48) rfl rfl Try.func14 (by kernel_rfl) rfl #[.agg #[.slice Ao24 y515.length co24, .slice Ao23 y518.length co23], .int .i64 (wrap64 (Int.tmod a2 1099511627776)), .int .i64 (wrap64 (Int.tmod a3 1099511627776))] rfl (by (try simp only [List.map_toArray, List.map_cons, List.map_nil]); first | done | rfl | (simp only [List.length_drop, List.length_take]; rfl)) ?_; (with_reducible refine (withhold_Due.calls k _ _ y515 _ _ y518 (wrap64 (Int.tmod a2 1099511627776)) (wrap64 (Int.tmod a3 1099511627776)) t522 t523 t524 t525 t528 t531 _ ?side1 ?side2 ?side3 ?side4 A6.out).mono ?_); (case side1 => refine (Kd.R_reads' (e := 58) (base := w.heap.size) (ok := fun k_ => True) (n := y515.length) (c := co24) ?_).2.2; exact (by refine kr_ ?_; exact (Kd.R_mono (Kd.R_far (p := ⟨gb521, 1, none⟩) (Kd.R_far (p := ⟨gb521, 0, none⟩) (Kd.R_types HO517.out BK521.out (by decide)) (fun _ hk => hk.2) (.slice Ao24 y515.length co24)) (fun _ hk => hk.2) (.slice Ao23 y518.length co23)) (fun _ h_ => h_.1)))); (case side2 => exact (Kd.R_reads' HO517.out).2.1); (case side3 => refine (Kd.R_reads' (e := 41) (base := w.heap.size) (ok := fun k_ => True) (n := y518.length) (c := co23) ?_).2.2; exact (by refine kr_ ?_; exact (Kd.R_mono (Kd.R_far (p := ⟨gb521, 1, none⟩) (Kd.R_far (p := ⟨gb521, 0, none⟩) (Kd.R_types HO520.out BK521.out (by decide)) (fun _ hk => hk.2) (.slice Ao24 y515.length co24)) (fun _ hk => hk.2) (.slice Ao23 y518.length co23)) (fun _ h_ => h_.1)))); (case side4 => exact (Kd.R_reads' HO520.out).2.1); rintro e w27 ⟨v526, v529, rfl, ho0, ho1, hb⟩; refine ⟨_, rfl, ?_⟩; have n0_ := Aside0.mk (Kd.R_below (by refine kr_ ?_; exact (Kd.R_mono (Kd.R_far (p := ⟨gb521, 1, none⟩) (Kd.R_far (p := ⟨gb521, 0, none⟩) (Kd.R_types HO517.out BK521.out (by decide)) (fun _ hk => hk.2) (.slice Ao24 y515.length co24)) (fun _ hk => hk.2) (.slice Ao23 y518.length co23)) (fun _ h_ => h_.1))) hb); have n1_ := Aside0.mk (Kd.R_below (by refine kr_ ?_; exact (Kd.R_mono (Kd.R_far (p := ⟨gb521, 1, none⟩) (Kd.R_far (p := ⟨gb521, 0, none⟩) (Kd.R_types HO520.out BK521.out (by decide)) (fun _ hk => hk.2) (.slice Ao24 y515.length co24)) (fun _ hk => hk.2) (.slice Ao23 y518.length co23)) (fun _ h_ => h_.1))) hb); have n2_ := Aside0.mk (Kd.R_lower ho0 (below_size bl_)); have n3_ := Aside0.mk (Kd.R_lower ho1 (below_size bl_)); have n4_ := Aside0.mk (blk_below (g := gb521) (o := .cells #[.slice Ao24 y515.length co24, .slice Ao23 y518.length co23] 25 (0, 0)) (by refine bq_ ?_; refine blk_put (cs := #[.slice Ao24 y515.length co24, .slice none 0 0]) ?_ 1 _ rfl; refine bq_ ?_; refine blk_put (cs := #[.slice none 0 0, .slice none 0 0]) ?_ 0 _ rfl; refine bq_ ?_; exact BK521.out) hb); have n5_ := Aside0.mk (below_step bl_ hb); clear HO517; clear HO520; clear BK521; clear HB; have HO517 := n0_; have HO520 := n1_; have HO527 := n2_; have HO530 := n3_; have BK521 := n4_; have HB := n5_; clear n0_ n1_ n2_ n3_ n4_ n5_; (try clear hb); (try clear hb2); (try clear hk); (try clear hi); (try clear ho0); (try clear ho1)) | ((with_reducible refine gate_dst (N := 17) rfl ?_); (try (refine gate_guard (by rfl) ?_; dsimp only)); refine box_event ?hg (N := 17) ?hd (cs := #[.int .i64 0, .int .i64 0, .int .i64 0, .slice none 0 0, .slice none 0 0]) (t := 30) ?hr ?_; (case hd => rfl); (case hg => rfl); (case hr => first | (go_simp; done) | (go_simp; rfl)); intro gb532 hg w28 hbox hb; have n0_ := Aside0.mk (Kd.R_below (by refine kr_ ?_; exact HO517.out) hb); have n1_ := Aside0.mk (Kd.R_below (by refine kr_ ?_; exact HO520.out) hb); have n2_ := Aside0.mk (Kd.R_below (by refine kr_ ?_; exact HO527.out) hb); have n3_ := Aside0.mk (Kd.R_below (by refine kr_ ?_; exact HO530.out) hb); have n4_ := Aside0.mk (blk_below (g := gb521) (o := .cells #[.slice Ao24 y515.length co24, .slice Ao23 y518.length co23] 25 (0, 0)) (by refine bq_ ?_; exact BK521.out) hb); have n5_ := Aside0.mk (below_step bl_ hb); have n6_ := Aside0.mk (hbox); have n7_ := Aside0.mk ((by rw [hg]; exact (below_size bl_) : w.heap.size ≤ gb532)); have n8_ := Aside0.mk ((by rw [hg]; exact (below_size bl_) : w.heap.size ≤ gb532)); have n9_ := Aside0.mk ((by rw [hg]; exact Nat.ne_of_lt (blk_lt (g := gb521) (o := .cells #[.slice Ao24 y515.length co24, .slice Ao23 y518.length co23] 25 (0, 0)) (by refine bq_ ?_; exact BK521.out)) : gb521 ≠ gb532)); have n10_ := Aside0.mk ((by rw [hg]; exact Nat.ne_of_gt (blk_lt (g := gb521) (o := .cells #[.slice Ao24 y515.length co24, .slice Ao23 y518.length co23] 25 (0, 0)) (by refine bq_ ?_; exact BK521.out)) : gb532 ≠ gb521)); clear HO517; clear HO520; clear HO527; clear HO530; clear BK521; clear HB; have HO517 := n0_; have HO520 := n1_; have HO527 := n2_; have HO530 := n3_; have BK521 := n4_; have HB := n5_; have BK532 := n6_; have GW532 := n7_; have GE532 := n8_; have NB521_532 := n9_; have NB532_521 := n10_; clear n0_ n1_ n2_ n3_ n4_ n5_ n6_ n7_ n8_ n9_ n10_; clear hb hbox hg; have hnb29 := NB532_521.out; have hnc29 := NB521_532.out; have hcz30_0 : w28.cell? ⟨gb532, 0, none⟩ = some (.int .i64 0) := (blk_cell BK532.out 0).trans rfl; have hcz30_1 : w28.cell? ⟨gb532, 1, none⟩ = some (.int .i64 0) := (blk_cell BK532.out 1).trans rfl; have hcz30_2 : w28.cell? ⟨gb532, 2, none⟩ = some (.int .i64 0) := (blk_cell BK532.out 2).trans rfl; have hcz30_3 : w28.cell? ⟨gb532, 3, none⟩ = some (.slice none 0 0) := (blk_cell BK532.out 3).trans rfl; have hcz30_4 : w28.cell? ⟨gb532, 4, none⟩ = some (.slice none 0 0) := (blk_cell BK532.out 4).trans rfl; have hfz30_0 := blk_frozen BK532.out 0; have hfz30_1 := blk_frozen BK532.out 1; have hfz30_2 := blk_frozen BK532.out 2; have hfz30_3 := blk_frozen BK532.out 3; have hfz30_4 := blk_frozen BK532.out 4; obtain ⟨Ao31, co31, eo31⟩ := Kd.R_slice HO527.out; subst eo31; obtain ⟨Ao32, co32, eo32⟩ := Kd.R_slice HO530.out; subst eo32))
                      have n0_ : Aside0 (Kd.R k58 58 (((((w28.setCell ⟨gb532, 0, none⟩ (.int .i64 t522)).setCell ⟨gb532, 1, none⟩ (.int .i64 t523)).setCell ⟨gb532, 2, none⟩ (.int .i64 t524)).setCell ⟨gb532, 3, none⟩ (.slice Ao31 t525.length co31)).setCell ⟨gb532, 4, none⟩ (.slice Ao32 t528.length co32)) w.heap.size (fun _ => True) (.slice Ao24 y515.length co24) y515) := ⟨by refine kr_ ?_; exact Kd.R_mono (Kd.R_far (p := ⟨gb532, 4, none⟩) (Kd.R_far (p := ⟨gb532, 3, none⟩) (Kd.R_far (p := ⟨gb532, 2, none⟩) (Kd.R_far (p := ⟨gb532, 1, none⟩) (Kd.R_far (p := ⟨gb532, 0, none⟩) (Kd.R_types HO517.out BK532.out (by decide)) (fun _ hk => hk.2) (.int .i64 t522)) (fun _ hk => hk.2) (.int .i64 t523)) (fun _ hk => hk.2) (.int .i64 t524)) (fun _ hk => hk.2) (.slice Ao31 t525.length co31)) (fun _ hk => hk.2) (.slice Ao32 t528.length co32)) (fun _ hk => trivial)⟩
                      have n1_ : Aside0 (Kd.R k41 41 (((((w28.setCell ⟨gb532, 0, none⟩ (.int .i64 t522)).setCell ⟨gb532, 1, none⟩ (.int .i64 t523)).setCell ⟨gb532, 2, none⟩ (.int .i64 t524)).setCell ⟨gb532, 3, none⟩ (.slice Ao31 t525.length co31)).setCell ⟨gb532, 4, none⟩ (.slice Ao32 t528.length co32)) w.heap.size (fun _ => True) (.slice Ao23 y518.length co23) y518) := ⟨by refine kr_ ?_; exact Kd.R_mono (Kd.R_far (p := ⟨gb532, 4, none⟩) (Kd.R_far (p := ⟨gb532, 3, none⟩) (Kd.R_far (p := ⟨gb532, 2, none⟩) (Kd.R_far (p := ⟨gb532, 1, none⟩) (Kd.R_far (p := ⟨gb532, 0, none⟩) (Kd.R_types HO520.out BK532.out (by decide)) (fun _ hk => hk.2) (.int .i64 t522)) (fun _ hk => hk.2) (.int .i64 t523)) (fun _ hk => hk.2) (.int .i64 t524)) (fun _ hk => hk.2) (.slice Ao31 t525.length co31)) (fun _ hk => hk.2) (.slice Ao32 t528.length co32)) (fun _ hk => trivial)⟩
                      have n2_ : Aside0 (Kd.R (Kd.int .i64) 3 (((((w28.setCell ⟨gb532, 0, none⟩ (.int .i64 t522)).setCell ⟨gb532, 1, none⟩ (.int .i64 t523)).setCell ⟨gb532, 2, none⟩ (.int .i64 t524)).setCell ⟨gb532, 3, none⟩ (.slice Ao31 t525.length co31)).setCell ⟨gb532, 4, none⟩ (.slice Ao32 t528.length co32)) w.heap.size (fun k_ => some k_ ≠ (.slice Ao32 t528.length co32 : Value).ownBlock) (.slice Ao31 t525.length co31) t525) := ⟨by refine kr_ ?_; exact Kd.R_mono (Kd.R_far (p := ⟨gb532, 4, none⟩) (Kd.R_far (p := ⟨gb532, 3, none⟩) (Kd.R_far (p := ⟨gb532, 2, none⟩) (Kd.R_far (p := ⟨gb532, 1, none⟩) (Kd.R_far (p := ⟨gb532, 0, none⟩) (Kd.R_types HO527.out BK532.out (by decide)) (fun _ hk => hk.2) (.int .i64 t522)) (fun _ hk => hk.2) (.int .i64 t523)) (fun _ hk => hk.2) (.int .i64 t524)) (fun _ hk => hk.2) (.slice Ao31 t525.length co31)) (fun _ hk => hk.2) (.slice Ao32 t528.length co32)) (fun _ hk => hk.1)⟩
                      have n3_ : Aside0 (Kd.R (Kd.int .i64) 3 (((((w28.setCell ⟨gb532, 0, none⟩ (.int .i64 t522)).setCell ⟨gb532, 1, none⟩ (.int .i64 t523)).setCell ⟨gb532, 2, none⟩ (.int .i64 t524)).setCell ⟨gb532, 3, none⟩ (.slice Ao31 t525.length co31)).setCell ⟨gb532, 4, none⟩ (.slice Ao32 t528.length co32)) w.heap.size (fun k_ => some k_ ≠ (.slice Ao31 t525.length co31 : Value).ownBlock) (.slice Ao32 t528.length co32) t528) := ⟨by refine kr_ ?_; exact Kd.R_mono (Kd.R_far (p := ⟨gb532, 4, none⟩) (Kd.R_far (p := ⟨gb532, 3, none⟩) (Kd.R_far (p := ⟨gb532, 2, none⟩) (Kd.R_far (p := ⟨gb532, 1, none⟩) (Kd.R_far (p := ⟨gb532, 0, none⟩) (Kd.R_types HO530.out BK532.out (by decide)) (fun _ hk => hk.2) (.int .i64 t522)) (fun _ hk => hk.2) (.int .i64 t523)) (fun _ hk => hk.2) (.int .i64 t524)) (fun _ hk => hk.2) (.slice Ao31 t525.length co31)) (fun _ hk => hk.2) (.slice Ao32 t528.length co32)) (fun _ hk => hk.1)⟩
                      have n4_ : Aside0 ((((((w28.setCell ⟨gb532, 0, none⟩ (.int .i64 t522)).setCell ⟨gb532, 1, none⟩ (.int .i64 t523)).setCell ⟨gb532, 2, none⟩ (.int .i64 t524)).setCell ⟨gb532, 3, none⟩ (.slice Ao31 t525.length co31)).setCell ⟨gb532, 4, none⟩ (.slice Ao32 t528.length co32)).heap[gb521]? = some (.cells #[.slice Ao24 y515.length co24, .slice Ao23 y518.length co23] 25 (0, 0))) := ⟨by refine bq_ ?_; refine blk_far ?_ NB521_532.out _; refine bq_ ?_; refine blk_far ?_ NB521_532.out _; refine bq_ ?_; refine blk_far ?_ NB521_532.out _; refine bq_ ?_; refine blk_far ?_ NB521_532.out _; refine bq_ ?_; refine blk_far ?_ NB521_532.out _; refine bq_ ?_; exact BK521.out⟩
                      have n5_ : Aside0 ((((((w28.setCell ⟨gb532, 0, none⟩ (.int .i64 t522)).setCell ⟨gb532, 1, none⟩ (.int .i64 t523)).setCell ⟨gb532, 2, none⟩ (.int .i64 t524)).setCell ⟨gb532, 3, none⟩ (.slice Ao31 t525.length co31)).setCell ⟨gb532, 4, none⟩ (.slice Ao32 t528.length co32)).heap[gb532]? = some (.cells #[.int .i64 t522, .int .i64 t523, .int .i64 t524, .slice Ao31 t525.length co31, .slice Ao32 t528.length co32] 30 (0, 0))) := ⟨by refine bq_ ?_; refine blk_put (cs := #[.int .i64 t522, .int .i64 t523, .int .i64 t524, .slice Ao31 t525.length co31, .slice none 0 0]) ?_ 4 _ rfl; refine bq_ ?_; refine blk_put (cs := #[.int .i64 t522, .int .i64 t523, .int .i64 t524, .slice none 0 0, .slice none 0 0]) ?_ 3 _ rfl; refine bq_ ?_; refine blk_put (cs := #[.int .i64 t522, .int .i64 t523, .int .i64 0, .slice none 0 0, .slice none 0 0]) ?_ 2 _ rfl; refine bq_ ?_; refine blk_put (cs := #[.int .i64 t522, .int .i64 0, .int .i64 0, .slice none 0 0, .slice none 0 0]) ?_ 1 _ rfl; refine bq_ ?_; refine blk_put (cs := #[.int .i64 0, .int .i64 0, .int .i64 0, .slice none 0 0, .slice none 0 0]) ?_ 0 _ rfl; refine bq_ ?_; exact BK532.out⟩
                      have n6_ : Aside0 (Below w.heap.size w (((((w28.setCell ⟨gb532, 0, none⟩ (.int .i64 t522)).setCell ⟨gb532, 1, none⟩ (.int .i64 t523)).setCell ⟨gb532, 2, none⟩ (.int .i64 t524)).setCell ⟨gb532, 3, none⟩ (.slice Ao31 t525.length co31)).setCell ⟨gb532, 4, none⟩ (.slice Ao32 t528.length co32))) := ⟨bl_⟩
                      (try clear HO517)
                      (try clear HO520)
                      (try clear HO527)
                      (try clear HO530)
                      (try clear BK521)
                      (try clear BK532)
                      (try clear HB)
                      generalize (((((w28.setCell ⟨gb532, 0, none⟩ (.int .i64 t522)).setCell ⟨gb532, 1, none⟩ (.int .i64 t523)).setCell ⟨gb532, 2, none⟩ (.int .i64 t524)).setCell ⟨gb532, 3, none⟩ (.slice Ao31 t525.length co31)).setCell ⟨gb532, 4, none⟩ (.slice Ao32 t528.length co32)) = w33 at n0_ n1_ n2_ n3_ n4_ n5_ n6_ ⊢
                      have HO517 := n0_
                      have HO520 := n1_
                      have HO527 := n2_
                      have HO530 := n3_
                      have BK521 := n4_
                      have BK532 := n5_
                      have HB := n6_
                      clear n0_ n1_ n2_ n3_ n4_ n5_ n6_
                      have n0_ := Aside0.mk (Kd.R_drew HO517.out)
                      have n1_ := Aside0.mk (Kd.R_drew HO520.out)
                      have n2_ := Aside0.mk (Kd.R_drew HO527.out)
                      have n3_ := Aside0.mk (Kd.R_drew HO530.out)
                      have n4_ := Aside0.mk (blk_drew BK521.out)
                      have n5_ := Aside0.mk (blk_drew BK532.out)
                      have n6_ := Aside0.mk (below_drew1 HB.out)
                      clear HO517
                      clear HO520
                      clear HO527
                      clear HO530
                      clear BK521
                      clear BK532
                      clear HB
                      have HO517 := n0_
                      have HO520 := n1_
                      have HO527 := n2_
                      have HO530 := n3_
                      have BK521 := n4_
                      have BK532 := n5_
                      have HB := n6_
                      clear n0_ n1_ n2_ n3_ n4_ n5_ n6_
                      have p533 : 0 ≤ (0 : Int) := (by omega)
                      have q533 : 0 < (t525.length : Int) := of_decide_eq_true (by first | (with_reducible assumption) | assumption)
                      obtain ⟨ad533, e533, hx533_0⟩ := Kd.at_int (Kd.R_reads' HO527.out).2.2 0 p533 q533
                      cases e533
                      have qi533 : (0 < t525.length) = True := eq_true (by omega)
                      (try rw [show ((0 : Int)).toNat = 0 from rfl] at hx533_0)
                      (try rw [Addr.add_zero'] at hx533_0)
                      replace p533 := eq_true p533
                      replace q533 := eq_true q533
                      have p534 : 0 ≤ (0 : Int) := (by omega)
                      have q534 : 0 < (t528.length : Int) := of_decide_eq_true (by first | (with_reducible assumption) | assumption)
                      obtain ⟨ad534, e534, hx534_0⟩ := Kd.at_int (Kd.R_reads' HO530.out).2.2 0 p534 q534
                      cases e534
                      have qi534 : (0 < t528.length) = True := eq_true (by omega)
                      (try rw [show ((0 : Int)).toNat = 0 from rfl] at hx534_0)
                      (try rw [Addr.add_zero'] at hx534_0)
                      replace p534 := eq_true p534
                      replace q534 := eq_true q534
                      have p535 : 0 ≤ (0 : Int) := (by omega)
                      have q535 : 0 < (t525.length : Int) := of_decide_eq_true (by first | (with_reducible assumption) | assumption)
                      obtain ⟨ad535, e535, hx535_0⟩ := Kd.at_int (Kd.R_reads' HO527.out).2.2 0 p535 q535
                      obtain rfl : ad533 = ad535 := (by injection e535)
                      have qi535 : (0 < t525.length) = True := eq_true (by omega)
                      (try rw [show ((0 : Int)).toNat = 0 from rfl] at hx535_0)
                      (try rw [Addr.add_zero'] at hx535_0)
                      replace p535 := eq_true p535
                      replace q535 := eq_true q535
                      refine start_ (n := 45) (S := fun w' => w'.cell? ⟨gb532, 0, none⟩ = some (.int .i64 t522) ∧ w'.cell? ⟨gb532, 1, none⟩ = some (.int .i64 t523) ∧ w'.cell? ⟨gb532, 2, none⟩ = some (.int .i64 t524) ∧ w'.cell? ⟨gb532, 3, none⟩ = some (.slice (some ad533) t525.length co31) ∧ w'.cell? ⟨gb532, 4, none⟩ = some (.slice (some ad534) t528.length co32) ∧ w'.cell? ad533 = some (.int .i64 (rd t525 0)) ∧ w'.cell? ad534 = some (.int .i64 (rd t528 0)) ∧ w'.cell? ad533 = some (.int .i64 (rd t525 0))) (ds := []) #[false, false, false, false, false, false, false, false, false, false, false, false, false, false, false, false, false, false, false, false, false, false, false, false, false, false, false, false, false, false, false, false, false, false, false, false, false, false, false, false, false, false, false, false, false] (by kernel_rfl) rfl rfl ⟨(blk_cell BK532.out 0).trans rfl, (blk_cell BK532.out 1).trans rfl, (blk_cell BK532.out 2).trans rfl, (blk_cell BK532.out 3).trans rfl, (blk_cell BK532.out 4).trans rfl, hx533_0, hx534_0, hx535_0⟩ (fun hHeld => ?_); refine with_tabW paymasterlaw14_WithholdFlat.tab8 paymasterlaw14_WithholdFlat.bits8 (fun HT_ HW_ => ?_)
                      generalize w33.drew = w34 at HO517 HO520 HO527 HO530 BK521 BK532 HB hx533_0 hx534_0 hx535_0 hHeld ⊢
                      refine pure_ (i := 0) (N := some 68) (v := ?_) (a' := ?_) #[true, false, false, false, false, false, false, false, false, false, false, false, false, false, false, false, false, false, false, false, false, false, false, false, false, false, false, false, false, false, false, false, false, false, false, false, false, false, false, false, false, false, false, false, false] rfl rfl (any_of HT_.out (by kernel_rfl)) (fun _ _ _ h => h) (Or.inl ⟨by rfl, ?_⟩) ?_ ?_
                      rotate_left
                      · intro w'
                        go_simp
                        with_reducible rfl
                      rotate_left
                      · simp only [Act.put, List.setIfInBounds_toArray, List.set_cons_zero, List.set_cons_succ, i64_w, i32_w]
                        rfl
                      refine pure_ (i := 2) (N := some 70) (v := ?_) (a' := ?_) #[true, false, true, false, false, false, false, false, false, false, false, false, false, false, false, false, false, false, false, false, false, false, false, false, false, false, false, false, false, false, false, false, false, false, false, false, false, false, false, false, false, false, false, false, false] rfl rfl (any_of HT_.out (by kernel_rfl)) (fun _ _ _ h => h) (Or.inl ⟨by rfl, ?_⟩) ?_ ?_
                      rotate_left
                      · intro w'
                        go_simp
                        with_reducible rfl
                      rotate_left
                      · simp only [Act.put, List.setIfInBounds_toArray, List.set_cons_zero, List.set_cons_succ, i64_w, i32_w]
                        rfl
                      refine pure_ (i := 3) (N := some 71) (v := ?_) (a' := ?_) #[true, false, true, true, false, false, false, false, false, false, false, false, false, false, false, false, false, false, false, false, false, false, false, false, false, false, false, false, false, false, false, false, false, false, false, false, false, false, false, false, false, false, false, false, false] rfl rfl (any_of HT_.out (by kernel_rfl)) (fun _ _ _ h => h) (Or.inl ⟨by rfl, ?_⟩) ?_ ?_
                      rotate_left
                      · intro w'
                        go_simp
                        with_reducible rfl
                      rotate_left
                      · simp only [Act.put, List.setIfInBounds_toArray, List.set_cons_zero, List.set_cons_succ, i64_w, i32_w]
                        rfl
                      refine pure_ (i := 4) (N := some 72) (v := ?_) (a' := ?_) #[true, false, true, true, true, false, false, false, false, false, false, false, false, false, false, false, false, false, false, false, false, false, false, false, false, false, false, false, false, false, false, false, false, false, false, false, false, false, false, false, false, false, false, false, false] rfl rfl (any_of HT_.out (by kernel_rfl)) (fun _ _ _ h => h) (Or.inl ⟨by rfl, ?_⟩) ?_ ?_
                      rotate_left
                      · intro w'
                        go_simp
                        with_reducible rfl
                      rotate_left
                      · simp only [Act.put, List.setIfInBounds_toArray, List.set_cons_zero, List.set_cons_succ, i64_w, i32_w]
                        rfl
                      refine pure_ (i := 5) (N := some 73) (v := ?_) (a' := ?_) #[true, false, true, true, true, true, false, false, false, false, false, false, false, false, false, false, false, false, false, false, false, false, false, false, false, false, false, false, false, false, false, false, false, false, false, false, false, false, false, false, false, false, false, false, false] rfl rfl (any_of HT_.out (by kernel_rfl)) (fun _ _ _ h => h) (Or.inl ⟨by rfl, ?_⟩) ?_ ?_
                      rotate_left
                      · intro w'
                        go_simp
                        with_reducible rfl
                      rotate_left
                      · simp only [Act.put, List.setIfInBounds_toArray, List.set_cons_zero, List.set_cons_succ, i64_w, i32_w]
                        rfl
                      refine take_ (i := 1) (N := some 69) (v := ?_) (a' := ?_) #[true, true, true, true, true, true, false, false, false, false, false, false, false, false, false, false, false, false, false, false, false, false, false, false, false, false, false, false, false, false, false, false, false, false, false, false, false, false, false, false, false, false, false, false, false] rfl rfl (take_ofW HT_.out HW_.out (by kernel_rfl)) (fun _ _ _ h => h) (Or.inl ⟨by rfl, ?_⟩) hHeld ?_ ?_
                      rotate_left
                      · rintro w' ⟨s0, s1, s2, s3, s4, s5, s6, s7⟩
                        go_simp
                        with_reducible rfl
                      rotate_left
                      · simp only [Act.put, List.setIfInBounds_toArray, List.set_cons_zero, List.set_cons_succ, i64_w, i32_w]
                        rfl
                      refine pure_ (i := 6) (N := some 74) (v := ?_) (a' := ?_) #[true, true, true, true, true, true, true, false, false, false, false, false, false, false, false, false, false, false, false, false, false, false, false, false, false, false, false, false, false, false, false, false, false, false, false, false, false, false, false, false, false, false, false, false, false] rfl rfl (any_of HT_.out (by kernel_rfl)) (fun _ _ _ h => h) (Or.inl ⟨by rfl, ?_⟩) ?_ ?_
                      rotate_left
                      · intro w'
                        go_simp
                        with_reducible rfl
                      rotate_left
                      · simp only [Act.put, List.setIfInBounds_toArray, List.set_cons_zero, List.set_cons_succ, i64_w, i32_w]
                        rfl
                      refine pure_ (i := 7) (N := some 75) (v := ?_) (a' := ?_) #[true, true, true, true, true, true, true, true, false, false, false, false, false, false, false, false, false, false, false, false, false, false, false, false, false, false, false, false, false, false, false, false, false, false, false, false, false, false, false, false, false, false, false, false, false] rfl rfl (any_of HT_.out (by kernel_rfl)) (fun _ _ _ h => h) (Or.inl ⟨by rfl, ?_⟩) ?_ ?_
                      rotate_left
                      · intro w'
                        go_simp
                        with_reducible rfl
                      rotate_left
                      · simp only [Act.put, List.setIfInBounds_toArray, List.set_cons_zero, List.set_cons_succ, i64_w, i32_w]
                        rfl
                      refine pure_ (i := 8) (N := some 76) (v := ?_) (a' := ?_) #[true, true, true, true, true, true, true, true, true, false, false, false, false, false, false, false, false, false, false, false, false, false, false, false, false, false, false, false, false, false, false, false, false, false, false, false, false, false, false, false, false, false, false, false, false] rfl rfl (any_of HT_.out (by kernel_rfl)) (fun _ _ _ h => h) (Or.inl ⟨by rfl, ?_⟩) ?_ ?_
                      rotate_left
                      · intro w'
                        go_simp
                        with_reducible rfl
                      rotate_left
                      · simp only [Act.put, List.setIfInBounds_toArray, List.set_cons_zero, List.set_cons_succ, i64_w, i32_w]
                        rfl
                      refine pure_ (i := 12) (N := some 80) (v := ?_) (a' := ?_) #[true, true, true, true, true, true, true, true, true, false, false, false, true, false, false, false, false, false, false, false, false, false, false, false, false, false, false, false, false, false, false, false, false, false, false, false, false, false, false, false, false, false, false, false, false] rfl rfl (any_of HT_.out (by kernel_rfl)) (fun _ _ _ h => h) (Or.inl ⟨by rfl, ?_⟩) ?_ ?_
                      rotate_left
                      · intro w'
                        go_simp
                        with_reducible rfl
                      rotate_left
                      · simp only [Act.put, List.setIfInBounds_toArray, List.set_cons_zero, List.set_cons_succ, i64_w, i32_w]
                        rfl
                      refine pure_ (i := 13) (N := some 81) (v := ?_) (a' := ?_) #[true, true, true, true, true, true, true, true, true, false, false, false, true, true, false, false, false, false, false, false, false, false, false, false, false, false, false, false, false, false, false, false, false, false, false, false, false, false, false, false, false, false, false, false, false] rfl rfl (any_of HT_.out (by kernel_rfl)) (fun _ _ _ h => h) (Or.inl ⟨by rfl, ?_⟩) ?_ ?_
                      rotate_left
                      · intro w'
                        go_simp
                        with_reducible rfl
                      rotate_left
                      · simp only [Act.put, List.setIfInBounds_toArray, List.set_cons_zero, List.set_cons_succ, i64_w, i32_w]
                        rfl
                      refine pure_ (i := 14) (N := some 82) (v := ?_) (a' := ?_) #[true, true, true, true, true, true, true, true, true, false, false, false, true, true, true, false, false, false, false, false, false, false, false, false, false, false, false, false, false, false, false, false, false, false, false, false, false, false, false, false, false, false, false, false, false] rfl rfl (any_of HT_.out (by kernel_rfl)) (fun _ _ _ h => h) (Or.inl ⟨by rfl, ?_⟩) ?_ ?_
                      rotate_left
                      · intro w'
                        go_simp
                        with_reducible rfl
                      rotate_left
                      · simp only [Act.put, List.setIfInBounds_toArray, List.set_cons_zero, List.set_cons_succ, i64_w, i32_w]
                        rfl
                      refine pure_ (i := 15) (N := some 83) (v := ?_) (a' := ?_) #[true, true, true, true, true, true, true, true, true, false, false, false, true, true, true, true, false, false, false, false, false, false, false, false, false, false, false, false, false, false, false, false, false, false, false, false, false, false, false, false, false, false, false, false, false] rfl rfl (any_of HT_.out (by kernel_rfl)) (fun _ _ _ h => h) (Or.inl ⟨by rfl, ?_⟩) ?_ ?_
                      rotate_left
                      · intro w'
                        go_simp
                        with_reducible rfl
                      rotate_left
                      · simp only [Act.put, List.setIfInBounds_toArray, List.set_cons_zero, List.set_cons_succ, i64_w, i32_w]
                        rfl
                      refine take_ (i := 9) (N := some 77) (v := ?_) (a' := ?_) #[true, true, true, true, true, true, true, true, true, true, false, false, true, true, true, true, false, false, false, false, false, false, false, false, false, false, false, false, false, false, false, false, false, false, false, false, false, false, false, false, false, false, false, false, false] rfl rfl (take_ofW HT_.out HW_.out (by kernel_rfl)) (fun _ _ _ h => h) (Or.inl ⟨by rfl, ?_⟩) hHeld ?_ ?_
                      rotate_left
                      · rintro w' ⟨s0, s1, s2, s3, s4, s5, s6, s7⟩
                        go_simp
                        with_reducible rfl
                      rotate_left
                      · simp only [Act.put, List.setIfInBounds_toArray, List.set_cons_zero, List.set_cons_succ, i64_w, i32_w]
                        rfl
                      refine pure_ (i := 10) (N := some 78) (v := ?_) (a' := ?_) #[true, true, true, true, true, true, true, true, true, true, true, false, true, true, true, true, false, false, false, false, false, false, false, false, false, false, false, false, false, false, false, false, false, false, false, false, false, false, false, false, false, false, false, false, false] rfl rfl (any_of HT_.out (by kernel_rfl)) (fun _ _ _ h => h) (Or.inl ⟨by rfl, ?_⟩) ?_ ?_
                      rotate_left
                      · intro w'
                        go_simp
                        with_reducible rfl
                      rotate_left
                      · simp only [Act.put, List.setIfInBounds_toArray, List.set_cons_zero, List.set_cons_succ, i64_w, i32_w]
                        rfl
                      refine take_ (i := 11) (N := some 79) (v := ?_) (a' := ?_) #[true, true, true, true, true, true, true, true, true, true, true, true, true, true, true, true, false, false, false, false, false, false, false, false, false, false, false, false, false, false, false, false, false, false, false, false, false, false, false, false, false, false, false, false, false] rfl rfl (take_ofW HT_.out HW_.out (by kernel_rfl)) (fun _ _ _ h => h) (Or.inl ⟨by rfl, ?_⟩) hHeld ?_ ?_
                      rotate_left
                      · rintro w' ⟨s0, s1, s2, s3, s4, s5, s6, s7⟩
                        go_simp
                        with_reducible rfl
                      rotate_left
                      · simp only [Act.put, List.setIfInBounds_toArray, List.set_cons_zero, List.set_cons_succ, i64_w, i32_w]
                        rfl
                      refine pure_ (i := 16) (N := some 84) (v := ?_) (a' := ?_) #[true, true, true, true, true, true, true, true, true, true, true, true, true, true, true, true, true, false, false, false, false, false, false, false, false, false, false, false, false, false, false, false, false, false, false, false, false, false, false, false, false, false, false, false, false] rfl rfl (any_of HT_.out (by kernel_rfl)) (fun _ _ _ h => h) (Or.inl ⟨by rfl, ?_⟩) ?_ ?_
                      rotate_left
                      · intro w'
                        go_simp
                        with_reducible rfl
                      rotate_left
                      · simp only [Act.put, List.setIfInBounds_toArray, List.set_cons_zero, List.set_cons_succ, i64_w, i32_w]
                        rfl
                      refine pure_ (i := 17) (N := some 85) (v := ?_) (a' := ?_) #[true, true, true, true, true, true, true, true, true, true, true, true, true, true, true, true, true, true, false, false, false, false, false, false, false, false, false, false, false, false, false, false, false, false, false, false, false, false, false, false, false, false, false, false, false] rfl rfl (any_of HT_.out (by kernel_rfl)) (fun _ _ _ h => h) (Or.inl ⟨by rfl, ?_⟩) ?_ ?_
                      rotate_left
                      · intro w'
                        go_simp
                        with_reducible rfl
                      rotate_left
                      · simp only [Act.put, List.setIfInBounds_toArray, List.set_cons_zero, List.set_cons_succ, i64_w, i32_w]
                        rfl
                      refine pure_ (i := 18) (N := some 86) (v := ?_) (a' := ?_) #[true, true, true, true, true, true, true, true, true, true, true, true, true, true, true, true, true, true, true, false, false, false, false, false, false, false, false, false, false, false, false, false, false, false, false, false, false, false, false, false, false, false, false, false, false] rfl rfl (any_of HT_.out (by kernel_rfl)) (fun _ _ _ h => h) (Or.inl ⟨by rfl, ?_⟩) ?_ ?_
                      rotate_left
                      · intro w'
                        go_simp
                        with_reducible rfl
                      rotate_left
                      · simp only [Act.put, List.setIfInBounds_toArray, List.set_cons_zero, List.set_cons_succ, i64_w, i32_w]
                        rfl
                      refine pure_ (i := 19) (N := some 87) (v := ?_) (a' := ?_) #[true, true, true, true, true, true, true, true, true, true, true, true, true, true, true, true, true, true, true, true, false, false, false, false, false, false, false, false, false, false, false, false, false, false, false, false, false, false, false, false, false, false, false, false, false] rfl rfl (any_of HT_.out (by kernel_rfl)) (fun _ _ _ h => h) (Or.inl ⟨by rfl, ?_⟩) ?_ ?_
                      rotate_left
                      · intro w'
                        go_simp
                        with_reducible rfl
                      rotate_left
                      · simp only [Act.put, List.setIfInBounds_toArray, List.set_cons_zero, List.set_cons_succ, i64_w, i32_w]
                        rfl
                      refine pure_ (i := 23) (N := some 91) (v := ?_) (a' := ?_) #[true, true, true, true, true, true, true, true, true, true, true, true, true, true, true, true, true, true, true, true, false, false, false, true, false, false, false, false, false, false, false, false, false, false, false, false, false, false, false, false, false, false, false, false, false] rfl rfl (any_of HT_.out (by kernel_rfl)) (fun _ _ _ h => h) (Or.inl ⟨by rfl, ?_⟩) ?_ ?_
                      rotate_left
                      · intro w'
                        go_simp
                        with_reducible rfl
                      rotate_left
                      · simp only [Act.put, List.setIfInBounds_toArray, List.set_cons_zero, List.set_cons_succ, i64_w, i32_w]
                        rfl
                      refine take_ (i := 20) (N := some 88) (v := ?_) (a' := ?_) #[true, true, true, true, true, true, true, true, true, true, true, true, true, true, true, true, true, true, true, true, true, false, false, true, false, false, false, false, false, false, false, false, false, false, false, false, false, false, false, false, false, false, false, false, false] rfl rfl (take_ofW HT_.out HW_.out (by kernel_rfl)) (fun _ _ _ h => h) (Or.inl ⟨by rfl, ?_⟩) hHeld ?_ ?_
                      rotate_left
                      · rintro w' ⟨s0, s1, s2, s3, s4, s5, s6, s7⟩
                        go_simp
                        with_reducible rfl
                      rotate_left
                      · simp only [Act.put, List.setIfInBounds_toArray, List.set_cons_zero, List.set_cons_succ, i64_w, i32_w]
                        rfl
                      refine pure_ (i := 21) (N := some 89) (v := ?_) (a' := ?_) #[true, true, true, true, true, true, true, true, true, true, true, true, true, true, true, true, true, true, true, true, true, true, false, true, false, false, false, false, false, false, false, false, false, false, false, false, false, false, false, false, false, false, false, false, false] rfl rfl (any_of HT_.out (by kernel_rfl)) (fun _ _ _ h => h) (Or.inl ⟨by rfl, ?_⟩) ?_ ?_
                      rotate_left
                      · intro w'
                        go_simp
                        with_reducible rfl
                      rotate_left
                      · simp only [Act.put, List.setIfInBounds_toArray, List.set_cons_zero, List.set_cons_succ, i64_w, i32_w]
                        rfl
                      refine take_ (i := 22) (N := some 90) (v := ?_) (a' := ?_) #[true, true, true, true, true, true, true, true, true, true, true, true, true, true, true, true, true, true, true, true, true, true, true, true, false, false, false, false, false, false, false, false, false, false, false, false, false, false, false, false, false, false, false, false, false] rfl rfl (take_ofW HT_.out HW_.out (by kernel_rfl)) (fun _ _ _ h => h) (Or.inl ⟨by rfl, ?_⟩) hHeld ?_ ?_
                      rotate_left
                      · rintro w' ⟨s0, s1, s2, s3, s4, s5, s6, s7⟩
                        go_simp
                        with_reducible rfl
                      rotate_left
                      · simp only [Act.put, List.setIfInBounds_toArray, List.set_cons_zero, List.set_cons_succ, i64_w, i32_w]
                        rfl
                      refine take_ (i := 24) (N := some 92) (v := ?_) (a' := ?_) #[true, true, true, true, true, true, true, true, true, true, true, true, true, true, true, true, true, true, true, true, true, true, true, true, true, false, false, false, false, false, false, false, false, false, false, false, false, false, false, false, false, false, false, false, false] rfl rfl (take_ofW HT_.out HW_.out (by kernel_rfl)) (fun _ _ _ h => h) (Or.inl ⟨by rfl, ?_⟩) hHeld ?_ ?_
                      rotate_left
                      · rintro w' ⟨s0, s1, s2, s3, s4, s5, s6, s7⟩
                        go_simp
                        with_reducible rfl
                      rotate_left
                      · simp only [Act.put, List.setIfInBounds_toArray, List.set_cons_zero, List.set_cons_succ, i64_w, i32_w]
                        rfl
                      refine pure_ (i := 25) (N := some 93) (v := ?_) (a' := ?_) #[true, true, true, true, true, true, true, true, true, true, true, true, true, true, true, true, true, true, true, true, true, true, true, true, true, true, false, false, false, false, false, false, false, false, false, false, false, false, false, false, false, false, false, false, false] rfl rfl (any_of HT_.out (by kernel_rfl)) (fun _ _ _ h => h) (Or.inl ⟨by rfl, ?_⟩) ?_ ?_
                      rotate_left
                      · intro w'
                        go_simp
                        with_reducible rfl
                      rotate_left
                      · simp only [Act.put, List.setIfInBounds_toArray, List.set_cons_zero, List.set_cons_succ, i64_w, i32_w]
                        rfl
                      refine take_ (i := 26) (N := some 94) (v := ?_) (a' := ?_) #[true, true, true, true, true, true, true, true, true, true, true, true, true, true, true, true, true, true, true, true, true, true, true, true, true, true, true, false, false, false, false, false, false, false, false, false, false, false, false, false, false, false, false, false, false] rfl rfl (take_ofW HT_.out HW_.out (by kernel_rfl)) (fun _ _ _ h => h) (Or.inl ⟨by rfl, ?_⟩) hHeld ?_ ?_
                      rotate_left
                      · rintro w' ⟨s0, s1, s2, s3, s4, s5, s6, s7⟩
                        go_simp
                        with_reducible rfl
                      rotate_left
                      · simp only [Act.put, List.setIfInBounds_toArray, List.set_cons_zero, List.set_cons_succ, i64_w, i32_w]
                        rfl
                      refine pure_ (i := 27) (N := some 95) (v := ?_) (a' := ?_) #[true, true, true, true, true, true, true, true, true, true, true, true, true, true, true, true, true, true, true, true, true, true, true, true, true, true, true, true, false, false, false, false, false, false, false, false, false, false, false, false, false, false, false, false, false] rfl rfl (any_of HT_.out (by kernel_rfl)) (fun _ _ _ h => h) (Or.inl ⟨by rfl, ?_⟩) ?_ ?_
                      rotate_left
                      · intro w'
                        go_simp
                        with_reducible rfl
                      rotate_left
                      · simp only [Act.put, List.setIfInBounds_toArray, List.set_cons_zero, List.set_cons_succ, i64_w, i32_w]
                        rfl
                      refine pure_ (i := 28) (N := some 96) (v := ?_) (a' := ?_) #[true, true, true, true, true, true, true, true, true, true, true, true, true, true, true, true, true, true, true, true, true, true, true, true, true, true, true, true, true, false, false, false, false, false, false, false, false, false, false, false, false, false, false, false, false] rfl rfl (any_of HT_.out (by kernel_rfl)) (fun _ _ _ h => h) (Or.inl ⟨by rfl, ?_⟩) ?_ ?_
                      rotate_left
                      · intro w'
                        go_simp
                        with_reducible rfl
                      rotate_left
                      · simp only [Act.put, List.setIfInBounds_toArray, List.set_cons_zero, List.set_cons_succ, i64_w, i32_w]
                        rfl
                      refine pure_ (i := 29) (N := some 97) (v := ?_) (a' := ?_) #[true, true, true, true, true, true, true, true, true, true, true, true, true, true, true, true, true, true, true, true, true, true, true, true, true, true, true, true, true, true, false, false, false, false, false, false, false, false, false, false, false, false, false, false, false] rfl rfl (any_of HT_.out (by kernel_rfl)) (fun _ _ _ h => h) (Or.inl ⟨by rfl, ?_⟩) ?_ ?_
                      rotate_left
                      · intro w'
                        go_simp
                        with_reducible rfl
                      rotate_left
                      · simp only [Act.put, List.setIfInBounds_toArray, List.set_cons_zero, List.set_cons_succ, i64_w, i32_w]
                        rfl
                      refine pure_ (i := 30) (N := some 98) (v := ?_) (a' := ?_) #[true, true, true, true, true, true, true, true, true, true, true, true, true, true, true, true, true, true, true, true, true, true, true, true, true, true, true, true, true, true, true, false, false, false, false, false, false, false, false, false, false, false, false, false, false] rfl rfl (any_of HT_.out (by kernel_rfl)) (fun _ _ _ h => h) (Or.inl ⟨by rfl, ?_⟩) ?_ ?_
                      rotate_left
                      · intro w'
                        go_simp
                        with_reducible rfl
                      rotate_left
                      · simp only [Act.put, List.setIfInBounds_toArray, List.set_cons_zero, List.set_cons_succ, i64_w, i32_w]
                        rfl
                      refine pure_ (i := 32) (N := some 100) (v := ?_) (a' := ?_) #[true, true, true, true, true, true, true, true, true, true, true, true, true, true, true, true, true, true, true, true, true, true, true, true, true, true, true, true, true, true, true, false, true, false, false, false, false, false, false, false, false, false, false, false, false] rfl rfl (any_of HT_.out (by kernel_rfl)) (fun _ _ _ h => h) (Or.inl ⟨by rfl, ?_⟩) ?_ ?_
                      rotate_left
                      · intro w'
                        go_simp
                        with_reducible rfl
                      rotate_left
                      · simp only [Act.put, List.setIfInBounds_toArray, List.set_cons_zero, List.set_cons_succ, i64_w, i32_w]
                        rfl
                      refine take_ (i := 31) (N := some 99) (v := ?_) (a' := ?_) #[true, true, true, true, true, true, true, true, true, true, true, true, true, true, true, true, true, true, true, true, true, true, true, true, true, true, true, true, true, true, true, true, true, false, false, false, false, false, false, false, false, false, false, false, false] rfl rfl (take_ofW HT_.out HW_.out (by kernel_rfl)) (fun _ _ _ h => h) (Or.inl ⟨by rfl, ?_⟩) hHeld ?_ ?_
                      rotate_left
                      · rintro w' ⟨s0, s1, s2, s3, s4, s5, s6, s7⟩
                        go_simp
                        with_reducible rfl
                      rotate_left
                      · simp only [Act.put, List.setIfInBounds_toArray, List.set_cons_zero, List.set_cons_succ, i64_w, i32_w]
                        rfl
                      refine pure_ (i := 33) (N := some 101) (v := ?_) (a' := ?_) #[true, true, true, true, true, true, true, true, true, true, true, true, true, true, true, true, true, true, true, true, true, true, true, true, true, true, true, true, true, true, true, true, true, true, false, false, false, false, false, false, false, false, false, false, false] rfl rfl (any_of HT_.out (by kernel_rfl)) (fun _ _ _ h => h) (Or.inl ⟨by rfl, ?_⟩) ?_ ?_
                      rotate_left
                      · intro w'
                        go_simp
                        with_reducible rfl
                      rotate_left
                      · simp only [Act.put, List.setIfInBounds_toArray, List.set_cons_zero, List.set_cons_succ, i64_w, i32_w]
                        rfl
                      refine pure_ (i := 34) (N := some 102) (v := ?_) (a' := ?_) #[true, true, true, true, true, true, true, true, true, true, true, true, true, true, true, true, true, true, true, true, true, true, true, true, true, true, true, true, true, true, true, true, true, true, true, false, false, false, false, false, false, false, false, false, false] rfl rfl (any_of HT_.out (by kernel_rfl)) (fun _ _ _ h => h) (Or.inl ⟨by rfl, ?_⟩) ?_ ?_
                      rotate_left
                      · intro w'
                        go_simp
                        with_reducible rfl
                      rotate_left
                      · simp only [Act.put, List.setIfInBounds_toArray, List.set_cons_zero, List.set_cons_succ, i64_w, i32_w]
                        rfl
                      refine pure_ (i := 35) (N := some 103) (v := ?_) (a' := ?_) #[true, true, true, true, true, true, true, true, true, true, true, true, true, true, true, true, true, true, true, true, true, true, true, true, true, true, true, true, true, true, true, true, true, true, true, true, false, false, false, false, false, false, false, false, false] rfl rfl (any_of HT_.out (by kernel_rfl)) (fun _ _ _ h => h) (Or.inl ⟨by rfl, ?_⟩) ?_ ?_
                      rotate_left
                      · intro w'
                        go_simp
                        with_reducible rfl
                      rotate_left
                      · simp only [Act.put, List.setIfInBounds_toArray, List.set_cons_zero, List.set_cons_succ, i64_w, i32_w]
                        rfl
                      refine pure_ (i := 36) (N := some 104) (v := ?_) (a' := ?_) #[true, true, true, true, true, true, true, true, true, true, true, true, true, true, true, true, true, true, true, true, true, true, true, true, true, true, true, true, true, true, true, true, true, true, true, true, true, false, false, false, false, false, false, false, false] rfl rfl (any_of HT_.out (by kernel_rfl)) (fun _ _ _ h => h) (Or.inl ⟨by rfl, ?_⟩) ?_ ?_
                      rotate_left
                      · intro w'
                        go_simp
                        with_reducible rfl
                      rotate_left
                      · simp only [Act.put, List.setIfInBounds_toArray, List.set_cons_zero, List.set_cons_succ, i64_w, i32_w]
                        rfl
                      refine pure_ (i := 38) (N := some 106) (v := ?_) (a' := ?_) #[true, true, true, true, true, true, true, true, true, true, true, true, true, true, true, true, true, true, true, true, true, true, true, true, true, true, true, true, true, true, true, true, true, true, true, true, true, false, true, false, false, false, false, false, false] rfl rfl (any_of HT_.out (by kernel_rfl)) (fun _ _ _ h => h) (Or.inl ⟨by rfl, ?_⟩) ?_ ?_
                      rotate_left
                      · intro w'
                        go_simp
                        with_reducible rfl
                      rotate_left
                      · simp only [Act.put, List.setIfInBounds_toArray, List.set_cons_zero, List.set_cons_succ, i64_w, i32_w]
                        rfl
                      refine take_ (i := 37) (N := some 105) (v := ?_) (a' := ?_) #[true, true, true, true, true, true, true, true, true, true, true, true, true, true, true, true, true, true, true, true, true, true, true, true, true, true, true, true, true, true, true, true, true, true, true, true, true, true, true, false, false, false, false, false, false] rfl rfl (take_ofW HT_.out HW_.out (by kernel_rfl)) (fun _ _ _ h => h) (Or.inl ⟨by rfl, ?_⟩) hHeld ?_ ?_
                      rotate_left
                      · rintro w' ⟨s0, s1, s2, s3, s4, s5, s6, s7⟩
                        go_simp
                        with_reducible rfl
                      rotate_left
                      · simp only [Act.put, List.setIfInBounds_toArray, List.set_cons_zero, List.set_cons_succ, i64_w, i32_w]
                        rfl
                      refine pure_ (i := 39) (N := some 107) (v := ?_) (a' := ?_) #[true, true, true, true, true, true, true, true, true, true, true, true, true, true, true, true, true, true, true, true, true, true, true, true, true, true, true, true, true, true, true, true, true, true, true, true, true, true, true, true, false, false, false, false, false] rfl rfl (any_of HT_.out (by kernel_rfl)) (fun _ _ _ h => h) (Or.inl ⟨by rfl, ?_⟩) ?_ ?_
                      rotate_left
                      · intro w'
                        go_simp
                        with_reducible rfl
                      rotate_left
                      · simp only [Act.put, List.setIfInBounds_toArray, List.set_cons_zero, List.set_cons_succ, i64_w, i32_w]
                        rfl
                      refine pure_ (i := 40) (N := some 108) (v := ?_) (a' := ?_) #[true, true, true, true, true, true, true, true, true, true, true, true, true, true, true, true, true, true, true, true, true, true, true, true, true, true, true, true, true, true, true, true, true, true, true, true, true, true, true, true, true, false, false, false, false] rfl rfl (any_of HT_.out (by kernel_rfl)) (fun _ _ _ h => h) (Or.inl ⟨by rfl, ?_⟩) ?_ ?_
                      rotate_left
                      · intro w'
                        go_simp
                        with_reducible rfl
                      rotate_left
                      · simp only [Act.put, List.setIfInBounds_toArray, List.set_cons_zero, List.set_cons_succ, i64_w, i32_w]
                        rfl
                      refine pure_ (i := 41) (N := some 109) (v := ?_) (a' := ?_) #[true, true, true, true, true, true, true, true, true, true, true, true, true, true, true, true, true, true, true, true, true, true, true, true, true, true, true, true, true, true, true, true, true, true, true, true, true, true, true, true, true, true, false, false, false] rfl rfl (any_of HT_.out (by kernel_rfl)) (fun _ _ _ h => h) (Or.inl ⟨by rfl, ?_⟩) ?_ ?_
                      rotate_left
                      · intro w'
                        go_simp
                        with_reducible rfl
                      rotate_left
                      · simp only [Act.put, List.setIfInBounds_toArray, List.set_cons_zero, List.set_cons_succ, i64_w, i32_w]
                        rfl
                      refine one_ (i := 42) (N := some 110) #[true, true, true, true, true, true, true, true, true, true, true, true, true, true, true, true, true, true, true, true, true, true, true, true, true, true, true, true, true, true, true, true, true, true, true, true, true, true, true, true, true, true, true, false, false] rfl rfl (one_of HT_.out (by kernel_rfl)) (by decide) (fun K hK => ?_)
                      refine goes_ Try.func10 (by kernel_rfl) rfl #[] (by rfl) rfl rfl (by (try simp only [List.map_toArray, List.map_cons, List.map_nil]); first | done | rfl | (simp only [List.length_drop, List.length_take]; rfl)) ?_
                      with_reducible refine (paymasterlaw14_awake.calls k  t536 _ A18.out).mono ?_
                      rintro e w35 ⟨rfl, hb⟩
                      have HS5_ := (hb.cell (World.block_lt_of_cell? _ _ (hHeld.2.2.2.2.2.1))).trans (hHeld.2.2.2.2.2.1)
                      have HS6_ := (hb.cell (World.block_lt_of_cell? _ _ (hHeld.2.2.2.2.2.2.1))).trans (hHeld.2.2.2.2.2.2.1)
                      have HS7_ := (hb.cell (World.block_lt_of_cell? _ _ (hHeld.2.2.2.2.2.2.2))).trans (hHeld.2.2.2.2.2.2.2)
                      refine ⟨_, rfl, ?_⟩
                      have n0_ := Aside0.mk (Kd.R_below (by refine kr_ ?_; exact HO517.out) hb)
                      have n1_ := Aside0.mk (Kd.R_below (by refine kr_ ?_; exact HO520.out) hb)
                      have n2_ := Aside0.mk (Kd.R_below (by refine kr_ ?_; exact HO527.out) hb)
                      have n3_ := Aside0.mk (Kd.R_below (by refine kr_ ?_; exact HO530.out) hb)
                      have n4_ := Aside0.mk (blk_below (g := gb521) (o := .cells #[.slice Ao24 y515.length co24, .slice Ao23 y518.length co23] 25 (0, 0)) (by refine bq_ ?_; exact BK521.out) hb)
                      have n5_ := Aside0.mk (blk_below (g := gb532) (o := .cells #[.int .i64 t522, .int .i64 t523, .int .i64 t524, .slice (some ad533) t525.length co31, .slice (some ad534) t528.length co32] 30 (0, 0)) (by refine bq_ ?_; exact BK532.out) hb)
                      have n6_ := Aside0.mk (below_step bl_ hb)
                      clear HO517
                      clear HO520
                      clear HO527
                      clear HO530
                      clear BK521
                      clear BK532
                      clear HB
                      have HO517 := n0_
                      have HO520 := n1_
                      have HO527 := n2_
                      have HO530 := n3_
                      have BK521 := n4_
                      have BK532 := n5_
                      have HB := n6_
                      clear n0_ n1_ n2_ n3_ n4_ n5_ n6_
                      (try clear hb)
                      (try clear hb2)
                      (try clear hk)
                      (try clear hi)
                      refine hK.out _ _ ⟨(blk_cell BK532.out 0).trans rfl, (blk_cell BK532.out 1).trans rfl, (blk_cell BK532.out 2).trans rfl, (blk_cell BK532.out 3).trans rfl, (blk_cell BK532.out 4).trans rfl, HS5_, HS6_, HS7_⟩ (fun hHeld => ?_)
                      clear hK K
                      refine norm_ (a' := ?_) ?_ ?_
                      rotate_left
                      · show Act.put _ (some 110) _ = _
                        simp only [Act.put, List.setIfInBounds_toArray, List.set_cons_zero, List.set_cons_succ, i64_w, i32_w]
                        rfl
                      refine pure_ (i := 43) (N := some 111) (v := ?_) (a' := ?_) #[true, true, true, true, true, true, true, true, true, true, true, true, true, true, true, true, true, true, true, true, true, true, true, true, true, true, true, true, true, true, true, true, true, true, true, true, true, true, true, true, true, true, true, true, false] rfl rfl (any_of HT_.out (by kernel_rfl)) (fun _ _ _ h => h) (Or.inl ⟨by rfl, ?_⟩) ?_ ?_
                      rotate_left
                      · intro w'
                        go_simp
                        with_reducible rfl
                      rotate_left
                      · simp only [Act.put, List.setIfInBounds_toArray, List.set_cons_zero, List.set_cons_succ, i64_w, i32_w]
                        rfl
                      refine pure_ (i := 44) (N := some 10) (v := ?_) (a' := ?_) #[true, true, true, true, true, true, true, true, true, true, true, true, true, true, true, true, true, true, true, true, true, true, true, true, true, true, true, true, true, true, true, true, true, true, true, true, true, true, true, true, true, true, true, true, true] rfl rfl (any_of HT_.out (by kernel_rfl)) (fun _ _ _ h => h) (Or.inl ⟨by rfl, ?_⟩) ?_ ?_
                      rotate_left
                      · intro w'
                        go_simp
                        with_reducible rfl
                      rotate_left
                      · simp only [Act.put, List.setIfInBounds_toArray, List.set_cons_zero, List.set_cons_succ, i64_w, i32_w]
                        rfl
                      refine done_ (done_of HT_.out (by kernel_rfl)) ?_
                      try go_wp2
                      go_ret
                      exact ⟨by first | rfl | (simp [errW_none, errW_some] <;> rfl) | (simp only [← hji10]; first | rfl | (simp [errW_none, errW_some] <;> rfl)) | (simp [*, errW_none, errW_some] <;> rfl), bl_⟩
                    · rw [if_neg c17] at H
                      exact absurd H (by simp)
                  · rw [if_neg c16] at H
                    exact absurd H (by simp)
                · rw [if_neg c15] at H
                  exact absurd H (by simp)
              · rw [if_neg c14] at H
                exact absurd H (by simp)
            · rw [if_neg c13] at H
              exact absurd H (by simp)
          · rw [if_neg c12] at H
            exact absurd H (by simp)
        · rw [if_neg c11] at H
          exact absurd H (by simp)
      · rw [if_neg c9] at H
        exact absurd H (by simp)
    · rw [if_neg c8] at H
      exact absurd H (by simp)
  · rw [if_neg c7] at H
    exact absurd H (by simp)

/-- THE ONE PURE STATEMENT of paymasterlaw14_WithholdFlat: yours. -/
def paymasterlaw14_WithholdFlat.Pure : Prop := ∀ (a0 : Int) (a1 : Int) (a2 : Int) (a3 : Int) (a4 : Int), (Lit.int .u16 a0).wf = true → (Lit.int .u16 a1).wf = true → (Lit.int .u64 a2).wf = true → (Lit.int .u64 a3).wf = true → (Lit.int .u64 a4).wf = true → ∃ k, paymasterlaw14_WithholdFlat.f k a0 a1 a2 a3 a4 = some true
theorem paymasterlaw14_WithholdFlat.walk (P : paymasterlaw14_WithholdFlat.Pure) (a0 : Int) (a1 : Int) (a2 : Int) (a3 : Int) (a4 : Int) (w : World) (w0 : (Lit.int .u16 a0).wf = true) (w1 : (Lit.int .u16 a1).wf = true) (w2 : (Lit.int .u64 a2).wf = true) (w3 : (Lit.int .u64 a3).wf = true) (w4 : (Lit.int .u64 a4).wf = true) :
    Calls Try.prog 8 #[.int .u16 a0, .int .u16 a1, .int .u64 a2, .int .u64 a3, .int .u64 a4] w fun e w' => e = .returned (.bool true) ∧ Below w.heap.size w w' := by
  obtain ⟨k, h⟩ := P a0 a1 a2 a3 a4 w0 w1 w2 w3 w4
  refine (paymasterlaw14_WithholdFlat.calls k a0 a1 a2 a3 a4 true w h).mono ?_
  rintro e w' ⟨rfl, hd⟩
  exact ⟨rfl, hd⟩

-- NOT PRINTED: function 3 (paymasterlaw14_WithholdNone)

end Go.Proofs.Ytocaneaofdbpoaa.PA
