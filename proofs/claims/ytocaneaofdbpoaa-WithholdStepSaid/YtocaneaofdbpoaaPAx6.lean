/- Contracts of the functions of the given program: written by wip/pmprint.py, a program of this session, which runs the print of the kit over altered functions. -/
import Derived.Test.YtocaneaofdbpoaaPAx0
namespace Go.Proofs.Ytocaneaofdbpoaa.PA
open Go.RowKit Go.Proofs.YtocaneaofdbpoaaW.PrintWords Go.Proofs.YtocaneaofdbpoaaW.PrintLast Go.Proofs.YtocaneaofdbpoaaW.PrintMore
attribute [local go_sem] max2_int min2_int max_two min_two max_three min_three max_four min_four   -- for this text's walks alone
set_option linter.unusedVariables false
set_option linter.unusedSimpArgs false

/-! ### withhold_less: function 21 -/
def withhold_less.l0 : Nat → List Int → List Int → List Int → Int → Int → Option (List Int)
  | 0, _, _, _, _, _ => none
  | k + 1, x1, x5, x8, x9, x10 => if x10 < x9 then (if 0 ≤ x10 then (if x10 < (x8.length : Int) then (if (x1.length : Int) > 0 then (if x10 < (x1.length : Int) then (if x5.length < 17592186044416 then (withhold_less.l0 k x1 (x5 ++ [wrap64 ((rd x8 x10) - (rd x1 x10))]) x8 x9 (wrap64 (x10 + 1))) else (none)) else (none)) else (if x5.length < 17592186044416 then (withhold_less.l0 k x1 (x5 ++ [rd x8 x10]) x8 x9 (wrap64 (x10 + 1))) else (none))) else (none)) else (none)) else (some x5)
def withhold_less.f (k : Nat) (l0 : List Int) (l1 : List Int) : Option (List Int) := withhold_less.l0 k l1 ([] : List Int) l0 (l0.length : Int) 0
set_option maxHeartbeats 8000000 in
set_option maxRecDepth 100000 in
theorem withhold_less.calls (k : Nat) (A0 : Option Addr) (c0 : Nat) (l0 : List Int) (A1 : Option Addr) (c1 : Nat) (l1 : List Int) (r : List Int) (w : World) (hr0 : Kd.C (Kd.int .i64) w A0 l0.length l0) (hc0 : l0.length ≤ c0) (hr1 : Kd.C (Kd.int .i64) w A1 l1.length l1) (hc1 : l1.length ≤ c1) (h : withhold_less.f k l0 l1 = some r) :
    Calls Try.prog 21 #[.slice A0 l0.length c0, .slice A1 l1.length c1] w fun e w' => ∃ v0_ : Value, e = .returned (v0_) ∧ Kd.R (Kd.int .i64) 3 w' w.heap.size (fun _ => True) v0_ r ∧ Below w.heap.size w w' := by
 have HR0 := Aside0.mk hr0
 have HC0 := Aside0.mk hc0
 clear hr0 hc0
 have HR1 := Aside0.mk hr1
 have HC1 := Aside0.mk hc1
 clear hr1 hc1
 have HB := Aside0.mk (Below.refl w.heap.size w)
 have H : (withhold_less.l0 k l1 ([] : List Int) l0 (l0.length : Int) 0) = some r := h
 clear h
 have H' := Aside0.mk H
 clear H
 go_enter Try.func21, Try.ntmps21
 go_wp2
 go_loopg [5, 10] k (fun kq v5 v10 w' => ∃ (x5_1 : List Int) (x10_1 : Int), v10 = .int .i64 x10_1 ∧ Aside0 (withhold_less.l0 kq l1 x5_1 l0 (l0.length : Int) x10_1 = some r) ∧ Aside0 (kq ≤ k) ∧ Aside0 (Kd.R (Kd.int .i64) 3 w' w.heap.size (fun _ => True) v5 x5_1) ∧ Aside0 (Below w.heap.size w w'))
 case atStart => exact ⟨(([] : List Int)), (0), sm_, H', ⟨Nat.le_refl _⟩, ⟨kn_⟩, ⟨bl_⟩⟩
 case round =>
  clear H'
  try clear c1
  obtain ⟨x5_1, x10_1, rfl, HA, HK1, HO_5, HB⟩ := hrel
  cases gk with
  | zero => exact absurd HA.out (by simp [withhold_less.l0])
  | succ k1 =>
   have H := HA.out
   clear HA
   simp only [withhold_less.l0] at H
   by_cases c3 : x10_1 < (l0.length : Int)
   ·rw [if_pos c3] at H
    have c3b0 : decide (x10_1 < (l0.length : Int)) = true := decide_eq_true c3
    clear c3
    by_cases c4 : 0 ≤ x10_1
    ·rw [if_pos c4] at H
     have c4b0 : decide (0 ≤ x10_1) = true := decide_eq_true c4
     clear c4
     by_cases c5 : x10_1 < (l0.length : Int)
     ·rw [if_pos c5] at H
      have c5b0 : decide (x10_1 < (l0.length : Int)) = true := decide_eq_true c5
      clear c5
      by_cases c6 : (l1.length : Int) > 0
      ·rw [if_pos c6] at H
       have c6b0 : decide (0 < (l1.length : Int)) = true := decide_eq_true c6
       have c6b1 : decide (0 < l1.length) = true := decide_eq_true (by omega)
       clear c6
       by_cases c7 : x10_1 < (l1.length : Int)
       ·rw [if_pos c7] at H
        have c7b0 : decide (x10_1 < (l1.length : Int)) = true := decide_eq_true c7
        clear c7
        by_cases c8 : x5_1.length < 17592186044416
        ·rw [if_pos c8] at H
         have LMc8 := Aside0.mk c8
         clear c8
         obtain ⟨y195, hy195⟩ : ∃ y_ : List Int, y_ = (x5_1 ++ [wrap64 ((rd l0 x10_1) - (rd l1 x10_1))]) := ⟨_, rfl⟩
         replace H : (withhold_less.l0 k1 l1 y195 l0 (l0.length : Int) (wrap64 (x10_1 + 1))) = some r := by first | (rw [hy195]; with_reducible exact H) | (have H2_ := (Option.bind_some _ _).symm.trans H; rw [hy195]; with_reducible exact H2_) | (have H2_ := (Option.bind_some _ _).symm.trans H; with_reducible exact H2_) | with_reducible exact H | (rw [hy195]; exact H) | exact H
         have Ny195 := Aside0.mk hy195
         clear hy195
         have H' := Aside0.mk H
         clear H
         have p193 : 0 ≤ (x10_1 : Int) := od_
         have q193 : x10_1 < (l0.length : Int) := od_
         obtain ⟨ad193, e193, hx193_0⟩ := Kd.at_int HR0.out x10_1 p193 q193
         cases e193
         replace hx193_0 := (HB.out.cell (World.block_lt_of_cell? w _ hx193_0)).trans hx193_0
         replace p193 := eq_true p193
         replace q193 := eq_true q193
         have p194 : 0 ≤ (x10_1 : Int) := od_
         have q194 : x10_1 < (l1.length : Int) := od_
         obtain ⟨ad194, e194, hx194_0⟩ := Kd.at_int HR1.out x10_1 p194 q194
         cases e194
         replace hx194_0 := (HB.out.cell (World.block_lt_of_cell? w _ hx194_0)).trans hx194_0
         replace p194 := eq_true p194
         replace q194 := eq_true q194
         go_wp2_with (first | ((with_reducible refine gate_builtin (b := .append) (xs := #[.tmp 24, .tmp 26]) rfl ?_); at_builtin; refine Kd.R_append (Kd.int .i64) (w0 := w) w.heap.size rfl (.tmp 24) (.tmp 26) 28 3 (.int .i64 0) 8 rfl Try.underlying28 info3 rfl (by decide) (by omega) u5 x5_1 (wrap64 ((rd l0 x10_1) - (rd l1 x10_1))) [.int .i64 (wrap64 ((rd l0 x10_1) - (rd l1 x10_1)))] (fun _ => True) (fun _ => False) rfl rfl ?aP (fun _ hk => hk.elim) ?aF ?aO ?aB ?aS ?aL ?_; (case aP => exact rfl); (case aB => exact bl_); (case aF => exact (fun _ _ => trivial)); (case aO => exact (rs_ HO_5.out)); (case aS => exact (below_size bl_)); (case aL => have := LMc8.out; omega); intro v196 w9 ho hb hg hat; rw [← Ny195.out] at ho; have HO197 := Aside0.mk (ho); replace HB := Aside0.mk (hb); clear HO_5; clear ho hb hg hat))
         go_roundg k1
         case measure => have := HK1.out; omega
         case rel => exact ⟨(y195), (wrap64 (x10_1 + 1)), sm_, H', ⟨by have := HK1.out; omega⟩, ⟨rs_ HO197.out⟩, ⟨bl_⟩⟩
        ·rw [if_neg c8] at H
         exact absurd H (by simp)
       ·rw [if_neg c7] at H
        exact absurd H (by simp)
      ·rw [if_neg c6] at H
       have c6b0 : decide (0 < (l1.length : Int)) = false := decide_eq_false c6
       have c6b1 : decide (0 < l1.length) = false := decide_eq_false (by omega)
       clear c6
       by_cases c10 : x5_1.length < 17592186044416
       ·rw [if_pos c10] at H
        have LMc10 := Aside0.mk c10
        clear c10
        obtain ⟨y198, hy198⟩ : ∃ y_ : List Int, y_ = (x5_1 ++ [rd l0 x10_1]) := ⟨_, rfl⟩
        replace H : (withhold_less.l0 k1 l1 y198 l0 (l0.length : Int) (wrap64 (x10_1 + 1))) = some r := by first | (rw [hy198]; with_reducible exact H) | (have H2_ := (Option.bind_some _ _).symm.trans H; rw [hy198]; with_reducible exact H2_) | (have H2_ := (Option.bind_some _ _).symm.trans H; with_reducible exact H2_) | with_reducible exact H | (rw [hy198]; exact H) | exact H
        have Ny198 := Aside0.mk hy198
        clear hy198
        have H' := Aside0.mk H
        clear H
        have p193 : 0 ≤ (x10_1 : Int) := od_
        have q193 : x10_1 < (l0.length : Int) := od_
        obtain ⟨ad193, e193, hx193_0⟩ := Kd.at_int HR0.out x10_1 p193 q193
        cases e193
        replace hx193_0 := (HB.out.cell (World.block_lt_of_cell? w _ hx193_0)).trans hx193_0
        replace p193 := eq_true p193
        replace q193 := eq_true q193
        go_wp2_with (first | ((with_reducible refine gate_builtin (b := .append) (xs := #[.tmp 24, .tmp 26]) rfl ?_); at_builtin; refine Kd.R_append (Kd.int .i64) (w0 := w) w.heap.size rfl (.tmp 24) (.tmp 26) 28 3 (.int .i64 0) 8 rfl Try.underlying28 info3 rfl (by decide) (by omega) u5 x5_1 (rd l0 x10_1) [.int .i64 (rd l0 x10_1)] (fun _ => True) (fun _ => False) rfl rfl ?aP (fun _ hk => hk.elim) ?aF ?aO ?aB ?aS ?aL ?_; (case aP => exact rfl); (case aB => exact bl_); (case aF => exact (fun _ _ => trivial)); (case aO => exact (rs_ HO_5.out)); (case aS => exact (below_size bl_)); (case aL => have := LMc10.out; omega); intro v199 w11 ho hb hg hat; rw [← Ny198.out] at ho; have HO200 := Aside0.mk (ho); replace HB := Aside0.mk (hb); clear HO_5; clear ho hb hg hat))
        go_roundg k1
        case measure => have := HK1.out; omega
        case rel => exact ⟨(y198), (wrap64 (x10_1 + 1)), sm_, H', ⟨by have := HK1.out; omega⟩, ⟨rs_ HO200.out⟩, ⟨bl_⟩⟩
       ·rw [if_neg c10] at H
        exact absurd H (by simp)
     ·rw [if_neg c5] at H
      exact absurd H (by simp)
    ·rw [if_neg c4] at H
     exact absurd H (by simp)
   ·rw [if_neg c3] at H
    have c3b0 : decide (x10_1 < (l0.length : Int)) = false := decide_eq_false c3
    clear c3
    obtain rfl := Option.some.inj H
    go_wp2
    go_ret
    exact ⟨_, se_, by refine kr_ ?_; exact HO_5.out, bl_⟩

end Go.Proofs.Ytocaneaofdbpoaa.PA
