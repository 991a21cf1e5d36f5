/- Contracts of the functions of the given program: written by wip/pmprint.py, a program of this session, which runs the print of the kit over altered functions. -/
import Derived.Test.YtocaneaofdbpoaaPAx0
import Derived.Test.YtocaneaofdbpoaaPAx3
namespace Go.Proofs.Ytocaneaofdbpoaa.PA
open Go.RowKit Go.Proofs.YtocaneaofdbpoaaW.PrintWords Go.Proofs.YtocaneaofdbpoaaW.PrintLast Go.Proofs.YtocaneaofdbpoaaW.PrintMore
attribute [local go_sem] max2_int min2_int max_two min_two max_three min_three max_four min_four   -- for this text's walks alone
set_option linter.unusedVariables false
set_option linter.unusedSimpArgs false

/-! ### brackets_Tax: function 26 -/
def brackets_Tax.l0 : Nat → List (S58) → Int → List Int → Int → Int → Option (Int × Int)
  | 0, _, _, _, _, _ => none
  | k + 1, x0, x8, x22, x23, x24 => if x24 < x23 then (if 0 ≤ x24 then (if x24 < (x22.length : Int) then (if x24 < (x0.length : Int) then ((rate_Of.f k (rd x22 x24) ((rd_T58 x0 x24).f1) 0).bind fun bt163 => (brackets_Tax.l0 k x0 (wrap64 (x8 + bt163.1)) x22 x23 (wrap64 (x24 + 1)))) else (none)) else (none)) else (none)) else (some (x8, 0))
def brackets_Tax.f (k : Nat) (l0 : List (S58)) (a1 : Int) : Option (Int × Int) := (brackets_Parts.f k l0 a1).bind fun bt157 => (if bt157.2 = 0 then (brackets_Tax.l0 k l0 0 bt157.1 (bt157.1.length : Int) 0) else (some (0, bt157.2)))
set_option maxHeartbeats 8000000 in
set_option maxRecDepth 100000 in
theorem brackets_Tax.calls (k : Nat) (A0 : Option Addr) (c0 : Nat) (l0 : List (S58)) (a1 : Int) (r1 : Int) (r2 : Int) (w : World) (hr0 : Kd.C k58 w A0 l0.length l0) (hc0 : l0.length ≤ c0) (h : brackets_Tax.f k l0 a1 = some (r1, r2)) :
    Calls Try.prog 26 #[.slice A0 l0.length c0, .int .i64 a1] w fun e w' => e = .returned (.tuple #[.int .i64 r1, .int .i64 r2]) ∧ Below w.heap.size w w' := by
 have HR0 := Aside0.mk hr0
 have HC0 := Aside0.mk hc0
 clear hr0 hc0
 have HB := Aside0.mk (Below.refl w.heap.size w)
 have H : ((brackets_Parts.f k l0 a1).bind fun bt157 => (if bt157.2 = 0 then (brackets_Tax.l0 k l0 0 bt157.1 (bt157.1.length : Int) 0) else (some (0, bt157.2)))) = some (r1, r2) := h
 clear h
 replace H := Option.bind_eq_some_iff.mp H
 obtain ⟨⟨t157, t158⟩, A30, H⟩ := H
 (try dsimp only at H)
 have A3 := Aside0.mk A30
 clear A30
 by_cases c4 : t158 = 0
 ·rw [if_pos c4] at H
  have c4b0 : (t158 == 0) = true := beq_iff_eq.mpr c4
  have c4b1 : (t158 != 0) = false := bne_eq_false_iff_eq.mpr c4
  clear c4
  have H' := Aside0.mk H
  clear H
  go_enter Try.func26, Try.ntmps26
  go_wp2_with (first | ((with_reducible refine gate_callee (f := 34) rfl ?_); refine goesL_ (some 16) rfl rfl Try.func34 (by kernel_rfl) rfl #[.slice A0 l0.length c0, .int .i64 a1] rfl ga_ ?_; (with_reducible refine (brackets_Parts.calls k _ _ l0 a1 t157 t158 _ ?side1 ?side2 A3.out).mono ?_); (case side1 => repeat (first | exact HR0.out | (with_reducible refine Kd.C_alloc ?_ _) | (with_reducible refine Kd.C_drewN ?_ _) | (with_reducible refine Kd.C_drew ?_))); (case side2 => exact HC0.out); rintro e w5 ⟨v159, rfl, ho0, hb⟩; refine ⟨_, rfl, ?_⟩; have HO160 := rl0_ ho0; replace HB := hs_ hb; (try clear hb); (try clear hb2); (try clear hk); (try clear hi); (try clear ho0); obtain ⟨Ao6, co6, eo6⟩ := Kd.R_slice HO160.out; subst eo6))
  go_loopg [8, 24] k (fun kq v8 v24 w' => ∃ (x8_1 : Int) (x24_1 : Int), v8 = .int .i64 x8_1 ∧ v24 = .int .i64 x24_1 ∧ Aside0 (brackets_Tax.l0 kq l0 x8_1 t157 (t157.length : Int) x24_1 = some (r1, r2)) ∧ Aside0 (kq ≤ k) ∧ Aside0 (Kd.R (Kd.int .i64) 3 w' w.heap.size (fun _ => True) (.slice Ao6 t157.length co6) t157) ∧ Aside0 (Below w.heap.size w w'))
  case atStart => exact ⟨(0), (0), sm_, sm_, H', ⟨Nat.le_refl _⟩, ⟨rs_ HO160.out⟩, ⟨bl_⟩⟩
  case round =>
   clear H'
   try clear c4; try clear c4b0; try clear c4b1
   obtain ⟨x8_1, x24_1, rfl, rfl, HA, HK1, HO_22, HB⟩ := hrel
   cases gk with
   | zero => exact absurd HA.out (by simp [brackets_Tax.l0])
   | succ k1 =>
    have H := HA.out
    clear HA
    simp only [brackets_Tax.l0] at H
    by_cases c7 : x24_1 < (t157.length : Int)
    ·rw [if_pos c7] at H
     have c7b0 : decide (x24_1 < (t157.length : Int)) = true := decide_eq_true c7
     clear c7
     by_cases c8 : 0 ≤ x24_1
     ·rw [if_pos c8] at H
      have c8b0 : decide (0 ≤ x24_1) = true := decide_eq_true c8
      clear c8
      by_cases c9 : x24_1 < (t157.length : Int)
      ·rw [if_pos c9] at H
       have c9b0 : decide (x24_1 < (t157.length : Int)) = true := decide_eq_true c9
       clear c9
       by_cases c10 : x24_1 < (l0.length : Int)
       ·rw [if_pos c10] at H
        have c10b0 : decide (x24_1 < (l0.length : Int)) = true := decide_eq_true c10
        clear c10
        replace H := Option.bind_eq_some_iff.mp H
        obtain ⟨⟨t163, t164⟩, A110, H⟩ := H
        (try dsimp only at H)
        have A11 := Aside0.mk A110
        clear A110
        have H' := Aside0.mk H
        clear H
        have p161 : 0 ≤ (x24_1 : Int) := od_
        have q161 : x24_1 < (t157.length : Int) := od_
        obtain ⟨ad161, e161, hx161_0⟩ := Kd.at_int (Kd.R_reads' HO_22.out).2.2 x24_1 p161 q161
        cases e161
        replace p161 := eq_true p161
        replace q161 := eq_true q161
        have p162 : 0 ≤ (x24_1 : Int) := od_
        have q162 : x24_1 < (l0.length : Int) := od_
        obtain ⟨ad162, e162, hx162_0, hx162_1⟩ := at_T58 HR0.out x24_1 p162 q162
        cases e162
        replace hx162_0 := (HB.out.cell (World.block_lt_of_cell? w _ hx162_0)).trans hx162_0
        replace hx162_1 := (HB.out.cell (World.block_lt_of_cell? w _ hx162_1)).trans hx162_1
        replace p162 := eq_true p162
        replace q162 := eq_true q162
        go_wp2_with (first | ((with_reducible refine gate_callee (f := 27) rfl ?_); refine goesL_ (some 36) rfl rfl Try.func27 (by kernel_rfl) rfl #[.int .i64 (rd t157 x24_1), .int .i64 ((rd_T58 l0 x24_1).f1), .int .i64 0] rfl ga_ ?_; (with_reducible refine (rate_Of.calls k1 (rd t157 x24_1) ((rd_T58 l0 x24_1).f1) 0 t163 t164 _ A11.out).mono ?_); rintro e w' ⟨rfl, ⟨nd, rfl⟩⟩; refine ⟨_, rfl, ?_⟩))
        go_roundg k1
        case measure => have := HK1.out; omega
        case rel => exact ⟨(wrap64 (x8_1 + t163)), (wrap64 (x24_1 + 1)), sm_, sm_, H', ⟨by have := HK1.out; omega⟩, ⟨rs_ HO_22.out⟩, ⟨bl_⟩⟩
       ·rw [if_neg c10] at H
        exact absurd H (by simp)
      ·rw [if_neg c9] at H
       exact absurd H (by simp)
     ·rw [if_neg c8] at H
      exact absurd H (by simp)
    ·rw [if_neg c7] at H
     have c7b0 : decide (x24_1 < (t157.length : Int)) = false := decide_eq_false c7
     clear c7
     simp only [Option.some.injEq, Prod.mk.injEq] at H
     obtain ⟨rfl, rfl⟩ := H
     go_wp2
     go_ret2
     exact ⟨se_, bl_⟩
 ·rw [if_neg c4] at H
  have c4b0 : (t158 == 0) = false := beq_eq_false_iff_ne.mpr c4
  have c4b1 : (t158 != 0) = true := bne_iff_ne.mpr c4
  simp only [Option.some.injEq, Prod.mk.injEq] at H
  obtain ⟨rfl, rfl⟩ := H
  go_enter Try.func26, Try.ntmps26
  go_wp2_with (first | ((with_reducible refine gate_callee (f := 34) rfl ?_); refine goesL_ (some 16) rfl rfl Try.func34 (by kernel_rfl) rfl #[.slice A0 l0.length c0, .int .i64 a1] rfl ga_ ?_; (with_reducible refine (brackets_Parts.calls k _ _ l0 a1 t157 t158 _ ?side1 ?side2 A3.out).mono ?_); (case side1 => repeat (first | exact HR0.out | (with_reducible refine Kd.C_alloc ?_ _) | (with_reducible refine Kd.C_drewN ?_ _) | (with_reducible refine Kd.C_drew ?_))); (case side2 => exact HC0.out); rintro e w12 ⟨v159, rfl, ho0, hb⟩; refine ⟨_, rfl, ?_⟩; have HO160 := rl0_ ho0; replace HB := hs_ hb; (try clear hb); (try clear hb2); (try clear hk); (try clear hi); (try clear ho0)))
  go_ret2
  exact ⟨se_, bl_⟩

end Go.Proofs.Ytocaneaofdbpoaa.PA
