/- Contracts of the functions of the given program: written by wip/pmprint.py, a program of this session, which runs the print of the kit over altered functions. -/
import Derived.Test.YtocaneaofdbpoaaPAx0
namespace Go.Proofs.Ytocaneaofdbpoaa.PA
open Go.RowKit Go.Proofs.YtocaneaofdbpoaaW.PrintWords Go.Proofs.YtocaneaofdbpoaaW.PrintLast Go.Proofs.YtocaneaofdbpoaaW.PrintMore
attribute [local go_sem] max2_int min2_int max_two min_two max_three min_three max_four min_four   -- for this text's walks alone
set_option linter.unusedVariables false
set_option linter.unusedSimpArgs false

/-! ### paymasterref14_Less: function 19 -/
mutual
def paymasterref14_Less.l0 : Nat → Int → Int → Int → Int → List Int → List Int → Int → Int → Int → List Int → List Int → Int → Int → Int → List Int → Option (Int × Int × Int × List Int × List Int)
  | 0, _, _, _, _, _, _, _, _, _, _, _, _, _, _, _ => none
  | k + 1, x6, x630000, x630001, x630002, x630003, x630004, x631000, x631001, x631002, x631003, x631004, x633000, x633001, x633002, x633003 => if x6 < (x630003.length : Int) then (if 0 ≤ x6 then (if x6 < (x631003.length : Int) then (if x633003.length < 17592186044416 then (paymasterref14_Less.l0 k (wrap64 (x6 + 1)) x630000 x630001 x630002 x630003 x630004 x631000 x631001 x631002 x631003 x631004 x633000 x633001 x633002 (x633003 ++ [wrap64 ((rd x630003 x6) - (rd x631003 x6))])) else (none)) else (if x633003.length < 17592186044416 then (paymasterref14_Less.l0 k (wrap64 (x6 + 1)) x630000 x630001 x630002 x630003 x630004 x631000 x631001 x631002 x631003 x631004 x633000 x633001 x633002 (x633003 ++ [rd x630003 x6])) else (none))) else (none)) else (paymasterref14_Less.l1 k 0 x630000 x630001 x630002 x630003 x630004 x631000 x631001 x631002 x631003 x631004 x633000 x633001 x633002 x633003 ([] : List Int))
def paymasterref14_Less.l1 : Nat → Int → Int → Int → Int → List Int → List Int → Int → Int → Int → List Int → List Int → Int → Int → Int → List Int → List Int → Option (Int × Int × Int × List Int × List Int)
  | 0, _, _, _, _, _, _, _, _, _, _, _, _, _, _, _, _ => none
  | k + 1, x8, x630000, x630001, x630002, x630003, x630004, x631000, x631001, x631002, x631003, x631004, x633000, x633001, x633002, x633003, x633004 => if x8 < (x630004.length : Int) then (if 0 ≤ x8 then (if x8 < (x631004.length : Int) then (if x633004.length < 17592186044416 then (paymasterref14_Less.l1 k (wrap64 (x8 + 1)) x630000 x630001 x630002 x630003 x630004 x631000 x631001 x631002 x631003 x631004 x633000 x633001 x633002 x633003 (x633004 ++ [wrap64 ((rd x630004 x8) - (rd x631004 x8))])) else (none)) else (if x633004.length < 17592186044416 then (paymasterref14_Less.l1 k (wrap64 (x8 + 1)) x630000 x630001 x630002 x630003 x630004 x631000 x631001 x631002 x631003 x631004 x633000 x633001 x633002 x633003 (x633004 ++ [rd x630004 x8])) else (none))) else (none)) else (some (x633000, x633001, x633002, x633003, x633004))
end
def paymasterref14_Less.f (k : Nat) (a0_0 : Int) (a0_1 : Int) (a0_2 : Int) (l0_3 : List Int) (l0_4 : List Int) (a1_0 : Int) (a1_1 : Int) (a1_2 : Int) (l1_3 : List Int) (l1_4 : List Int) : Option (Int × Int × Int × List Int × List Int) := paymasterref14_Less.l0 k 0 a0_0 a0_1 a0_2 l0_3 l0_4 a1_0 a1_1 a1_2 l1_3 l1_4 (wrap64 (a0_0 - a1_0)) (wrap64 (a0_1 - a1_1)) (wrap64 (a0_2 - a1_2)) ([] : List Int)
set_option maxHeartbeats 8000000 in
set_option maxRecDepth 100000 in
theorem paymasterref14_Less.calls (k : Nat) (a0_0 : Int) (a0_1 : Int) (a0_2 : Int) (A0_3 : Option Addr) (c0_3 : Nat) (l0_3 : List Int) (A0_4 : Option Addr) (c0_4 : Nat) (l0_4 : List Int) (a1_0 : Int) (a1_1 : Int) (a1_2 : Int) (A1_3 : Option Addr) (c1_3 : Nat) (l1_3 : List Int) (A1_4 : Option Addr) (c1_4 : Nat) (l1_4 : List Int) (r1 : Int) (r2 : Int) (r3 : Int) (r4 : List Int) (r5 : List Int) (w : World) (hr0_3 : Kd.C (Kd.int .i64) w A0_3 l0_3.length l0_3) (hc0_3 : l0_3.length ≤ c0_3) (hr0_4 : Kd.C (Kd.int .i64) w A0_4 l0_4.length l0_4) (hc0_4 : l0_4.length ≤ c0_4) (hr1_3 : Kd.C (Kd.int .i64) w A1_3 l1_3.length l1_3) (hc1_3 : l1_3.length ≤ c1_3) (hr1_4 : Kd.C (Kd.int .i64) w A1_4 l1_4.length l1_4) (hc1_4 : l1_4.length ≤ c1_4) (h : paymasterref14_Less.f k a0_0 a0_1 a0_2 l0_3 l0_4 a1_0 a1_1 a1_2 l1_3 l1_4 = some (r1, r2, r3, r4, r5)) :
    Calls Try.prog 19 #[.agg #[.int .i64 a0_0, .int .i64 a0_1, .int .i64 a0_2, .slice A0_3 l0_3.length c0_3, .slice A0_4 l0_4.length c0_4], .agg #[.int .i64 a1_0, .int .i64 a1_1, .int .i64 a1_2, .slice A1_3 l1_3.length c1_3, .slice A1_4 l1_4.length c1_4]] w fun e w' => ∃ v3_ v4_ : Value, e = .returned (.agg #[.int .i64 r1, .int .i64 r2, .int .i64 r3, v3_, v4_]) ∧ Kd.R (Kd.int .i64) 3 w' w.heap.size (fun k_ => some k_ ≠ (v4_ : Value).ownBlock) v3_ r4 ∧ Kd.R (Kd.int .i64) 3 w' w.heap.size (fun k_ => some k_ ≠ (v3_ : Value).ownBlock) v4_ r5 ∧ Below w.heap.size w w' := by
 have hu35 := Try.underlying35
 have HR0_3 := Aside0.mk hr0_3
 have HC0_3 := Aside0.mk hc0_3
 clear hr0_3 hc0_3
 have HR0_4 := Aside0.mk hr0_4
 have HC0_4 := Aside0.mk hc0_4
 clear hr0_4 hc0_4
 have HR1_3 := Aside0.mk hr1_3
 have HC1_3 := Aside0.mk hc1_3
 clear hr1_3 hc1_3
 have HR1_4 := Aside0.mk hr1_4
 have HC1_4 := Aside0.mk hc1_4
 clear hr1_4 hc1_4
 have HB := Aside0.mk (Below.refl w.heap.size w)
 have H : (paymasterref14_Less.l0 k 0 a0_0 a0_1 a0_2 l0_3 l0_4 a1_0 a1_1 a1_2 l1_3 l1_4 (wrap64 (a0_0 - a1_0)) (wrap64 (a0_1 - a1_1)) (wrap64 (a0_2 - a1_2)) ([] : List Int)) = some (r1, r2, r3, r4, r5) := h
 clear h
 have H' := Aside0.mk H
 clear H
 go_enter Try.func19, Try.ntmps19
 go_wp2_with (first | ((with_reducible refine gate_dst (N := 2) rfl ?_); refine bx_ 2 #[.int .i64 a0_0, .int .i64 a0_1, .int .i64 a0_2, .slice A0_3 l0_3.length c0_3, .slice A0_4 l0_4.length c0_4] 35 ?_; intro gb629 hg w3 hbox hb; have BK629 := Aside0.mk hbox; have GW629 := gs_ hg; have GE629 := gs_ hg; replace HB := hs_ hb; clear hb hbox hg) | ((with_reducible refine gate_dst (N := 3) rfl ?_); refine bx_ 3 #[.int .i64 a1_0, .int .i64 a1_1, .int .i64 a1_2, .slice A1_3 l1_3.length c1_3, .slice A1_4 l1_4.length c1_4] 35 ?_; intro gb630 hg w4 hbox hb; have BK630 := Aside0.mk hbox; have GW630 := gs_ hg; have GE630 := gs_ hg; have NB629_630 := nl_ hg BK629.out; have NB630_629 := ng_ hg BK629.out; replace BK629 := bb_ BK629.out hb; replace HB := hs_ hb; clear hb hbox hg) | ((with_reducible refine gate_dst (N := 4) rfl ?_); refine bx_ 4 #[.int .i64 0, .int .i64 0, .int .i64 0, .slice none 0 0, .slice none 0 0] 35 ?_; intro gb631 hg w5 hbox hb; have BK631 := Aside0.mk hbox; have GW631 := gs_ hg; have GE631 := gs_ hg; have NB629_631 := nl_ hg BK629.out; have NB631_629 := ng_ hg BK629.out; have NB630_631 := nl_ hg BK630.out; have NB631_630 := ng_ hg BK630.out; replace BK629 := bb_ BK629.out hb; replace BK630 := bb_ BK630.out hb; replace HB := hs_ hb; clear hb hbox hg; have hnb6 := NB629_630.out; have hnc6 := NB630_629.out; have hnb7 := NB629_631.out; have hnc7 := NB631_629.out; obtain ⟨hcz8_0, hcz8_1, hcz8_2, hcz8_3, hcz8_4, hfz8_0, hfz8_1, hfz8_2, hfz8_3, hfz8_4⟩ := c5_ BK629.out; have hnb9 := NB630_631.out; have hnc9 := NB631_630.out; obtain ⟨hcz10_0, hcz10_1, hcz10_2, hcz10_3, hcz10_4, hfz10_0, hfz10_1, hfz10_2, hfz10_3, hfz10_4⟩ := c5_ BK630.out) | ((with_reducible refine gate_dst (N := 5) rfl ?_); refine bx_ 5 #[.int .i64 0, .int .i64 0, .int .i64 0, .slice none 0 0, .slice none 0 0] 35 ?_; intro gb632 hg w11 hbox hb; have BK632 := Aside0.mk hbox; have GW632 := gs_ hg; have GE632 := gs_ hg; have NB629_632 := nl_ hg BK629.out; have NB632_629 := ng_ hg BK629.out; have NB630_632 := nl_ hg BK630.out; have NB632_630 := ng_ hg BK630.out; have NB631_632 := nl_ hg BK631.out; have NB632_631 := ng_ hg BK631.out; replace BK629 := bb_ BK629.out hb; replace BK630 := bb_ BK630.out hb; replace BK631 := bb_ BK631.out hb; replace HB := hs_ hb; clear hb hbox hg; have hnb12 := NB632_629.out; have hnc12 := NB629_632.out; have hnb13 := NB632_630.out; have hnc13 := NB630_632.out; have hnb14 := NB632_631.out; have hnc14 := NB631_632.out; obtain ⟨hcz15_0, hcz15_1, hcz15_2, hcz15_3, hcz15_4, hfz15_0, hfz15_1, hfz15_2, hfz15_3, hfz15_4⟩ := c5_ BK632.out))
 go_loopg [6] k (fun kq v6 w' => ∃ (x6_1 : Int) (x633003_1 : List Int) (u633003 : Value), v6 = .int .i64 x6_1 ∧ Aside0 (paymasterref14_Less.l0 kq x6_1 a0_0 a0_1 a0_2 l0_3 l0_4 a1_0 a1_1 a1_2 l1_3 l1_4 (wrap64 (a0_0 - a1_0)) (wrap64 (a0_1 - a1_1)) (wrap64 (a0_2 - a1_2)) x633003_1 = some (r1, r2, r3, r4, r5)) ∧ Aside0 (kq ≤ k) ∧ Aside0 (Kd.R (Kd.int .i64) 3 w' w.heap.size (fun _ => True) u633003 x633003_1) ∧ Aside0 (w'.heap[gb629]? = some (.cells #[.int .i64 a0_0, .int .i64 a0_1, .int .i64 a0_2, (.slice A0_3 l0_3.length c0_3), (.slice A0_4 l0_4.length c0_4)] 35 (0, 0))) ∧ Aside0 (w'.heap[gb630]? = some (.cells #[.int .i64 a1_0, .int .i64 a1_1, .int .i64 a1_2, (.slice A1_3 l1_3.length c1_3), (.slice A1_4 l1_4.length c1_4)] 35 (0, 0))) ∧ Aside0 (w'.heap[gb631]? = some (.cells #[.int .i64 0, .int .i64 0, .int .i64 0, (.slice none 0 0), (.slice none 0 0)] 35 (0, 0))) ∧ Aside0 (w'.heap[gb632]? = some (.cells #[.int .i64 (wrap64 (a0_0 - a1_0)), .int .i64 (wrap64 (a0_1 - a1_1)), .int .i64 (wrap64 (a0_2 - a1_2)), u633003, (.slice none 0 0)] 35 (0, 0))) ∧ Aside0 (Below w.heap.size w w'))
 case atStart => exact ⟨(0), (([] : List Int)), (.slice none 0 0), sm_, H', ⟨Nat.le_refl _⟩, ⟨kn_⟩, ⟨bf_ BK629.out⟩, ⟨bf_ BK630.out⟩, ⟨bf_ BK631.out⟩, ⟨bp_ BK632.out⟩, ⟨bl_⟩⟩
 case round =>
  clear H'
  try clear hcz10_0; try clear hcz10_1; try clear hcz10_2; try clear hcz10_3; try clear hcz10_4; try clear hcz15_0; try clear hcz15_1; try clear hcz15_2; try clear hcz15_3; try clear hcz15_4; try clear hcz8_0; try clear hcz8_1; try clear hcz8_2; try clear hcz8_3; try clear hcz8_4; try clear hfz10_0; try clear hfz10_1; try clear hfz10_2; try clear hfz10_3; try clear hfz10_4; try clear hfz15_0; try clear hfz15_1
  try clear hfz15_2; try clear hfz15_3; try clear hfz15_4; try clear hfz8_0; try clear hfz8_1; try clear hfz8_2; try clear hfz8_3; try clear hfz8_4
  obtain ⟨x6_1, x633003_1, u633003, rfl, HA, HK1, HO_633003, BK629, BK630, BK631, BK632, HB⟩ := hrel
  cases gk with
  | zero => exact absurd HA.out (by simp [paymasterref14_Less.l0])
  | succ k1 =>
   have H := HA.out
   clear HA
   simp only [paymasterref14_Less.l0] at H
   by_cases c16 : x6_1 < (l0_3.length : Int)
   ·rw [if_pos c16] at H
    have c16b0 : decide (x6_1 < (l0_3.length : Int)) = true := decide_eq_true c16
    clear c16
    by_cases c17 : 0 ≤ x6_1
    ·rw [if_pos c17] at H
     have c17b0 : decide (0 ≤ x6_1) = true := decide_eq_true c17
     clear c17
     by_cases c18 : x6_1 < (l1_3.length : Int)
     ·rw [if_pos c18] at H
      have c18b0 : decide (x6_1 < (l1_3.length : Int)) = true := decide_eq_true c18
      clear c18
      by_cases c19 : x633003_1.length < 17592186044416
      ·rw [if_pos c19] at H
       have LMc19 := Aside0.mk c19
       clear c19
       obtain ⟨y635, hy635⟩ : ∃ y_ : List Int, y_ = (x633003_1 ++ [wrap64 ((rd l0_3 x6_1) - (rd l1_3 x6_1))]) := ⟨_, rfl⟩
       replace H : (paymasterref14_Less.l0 k1 (wrap64 (x6_1 + 1)) a0_0 a0_1 a0_2 l0_3 l0_4 a1_0 a1_1 a1_2 l1_3 l1_4 (wrap64 (a0_0 - a1_0)) (wrap64 (a0_1 - a1_1)) (wrap64 (a0_2 - a1_2)) y635) = some (r1, r2, r3, r4, r5) := by first | (rw [hy635]; with_reducible exact H) | (have H2_ := (Option.bind_some _ _).symm.trans H; rw [hy635]; with_reducible exact H2_) | (have H2_ := (Option.bind_some _ _).symm.trans H; with_reducible exact H2_) | with_reducible exact H | (rw [hy635]; exact H) | exact H
       have Ny635 := Aside0.mk hy635
       clear hy635
       have H' := Aside0.mk H
       clear H
       have hnb20 := NB629_630.out
       have hnc20 := NB630_629.out
       have hnb21 := NB629_631.out
       have hnc21 := NB631_629.out
       have hnb22 := NB629_632.out
       have hnc22 := NB632_629.out
       obtain ⟨hcz23_0, hcz23_1, hcz23_2, hcz23_3, hcz23_4, hfz23_0, hfz23_1, hfz23_2, hfz23_3, hfz23_4⟩ := c5_ BK629.out
       have p633 : 0 ≤ (x6_1 : Int) := od_
       have q633 : x6_1 < (l0_3.length : Int) := od_
       obtain ⟨ad633, e633, hx633_0⟩ := Kd.at_int HR0_3.out x6_1 p633 q633
       cases e633
       replace hx633_0 := (HB.out.cell (World.block_lt_of_cell? w _ hx633_0)).trans hx633_0
       replace p633 := eq_true p633
       replace q633 := eq_true q633
       have hnb24 := NB630_631.out
       have hnc24 := NB631_630.out
       have hnb25 := NB630_632.out
       have hnc25 := NB632_630.out
       obtain ⟨hcz26_0, hcz26_1, hcz26_2, hcz26_3, hcz26_4, hfz26_0, hfz26_1, hfz26_2, hfz26_3, hfz26_4⟩ := c5_ BK630.out
       have p634 : 0 ≤ (x6_1 : Int) := od_
       have q634 : x6_1 < (l1_3.length : Int) := od_
       obtain ⟨ad634, e634, hx634_0⟩ := Kd.at_int HR1_3.out x6_1 p634 q634
       cases e634
       replace hx634_0 := (HB.out.cell (World.block_lt_of_cell? w _ hx634_0)).trans hx634_0
       replace p634 := eq_true p634
       replace q634 := eq_true q634
       have hnb27 := NB632_631.out
       have hnc27 := NB631_632.out
       obtain ⟨hcz28_0, hcz28_1, hcz28_2, hcz28_3, hcz28_4, hfz28_0, hfz28_1, hfz28_2, hfz28_3, hfz28_4⟩ := c5_ BK632.out
       go_wp2_with (first | ((with_reducible refine gate_builtin (b := .append) (xs := #[.tmp 51, .tmp 53]) rfl ?_); at_builtin; refine Kd.R_append (Kd.int .i64) (w0 := w) w.heap.size rfl (.tmp 51) (.tmp 53) 28 3 (.int .i64 0) 8 rfl Try.underlying28 info3 rfl (by decide) (by omega) u633003 x633003_1 (wrap64 ((rd l0_3 x6_1) - (rd l1_3 x6_1))) [.int .i64 (wrap64 ((rd l0_3 x6_1) - (rd l1_3 x6_1)))] (fun _ => True) (fun _ => False) rfl rfl ?aP (fun _ hk => hk.elim) ?aF ?aO ?aB ?aS ?aL ?_; (case aP => exact rfl); (case aB => exact bl_); (case aF => exact (fun _ _ => trivial)); (case aO => exact (rs_ HO_633003.out)); (case aS => exact (below_size bl_)); (case aL => have := LMc19.out; omega); intro v636 w29 ho hb hg hat; rw [← Ny635.out] at ho; have HO637 := Aside0.mk (ho); replace BK629 := bg_ BK629.out hg (Kd.R_ne HO_633003.out BK629.out (by decide)); replace BK630 := bg_ BK630.out hg (Kd.R_ne HO_633003.out BK630.out (by decide)); replace BK631 := bg_ BK631.out hg (Kd.R_ne HO_633003.out BK631.out (by decide)); replace BK632 := bg_ BK632.out hg (Kd.R_ne HO_633003.out BK632.out (by decide)); replace HB := Aside0.mk (hb); clear HO_633003; clear ho hb hg hat; obtain ⟨Ao30, co30, eo30⟩ := Kd.R_slice HO637.out; subst eo30; obtain ⟨hcz31_0, hcz31_1, hcz31_2, hcz31_3, hcz31_4, hfz31_0, hfz31_1, hfz31_2, hfz31_3, hfz31_4⟩ := c5_ BK632.out))
       go_roundg k1
       case measure => have := HK1.out; omega
       case rel => exact ⟨(wrap64 (x6_1 + 1)), (y635), (.slice Ao30 y635.length co30), sm_, H', ⟨by have := HK1.out; omega⟩, ⟨rs_ (ty_ HO637.out BK632.out)⟩, ⟨bf_ BK629.out⟩, ⟨bf_ BK630.out⟩, ⟨bf_ BK631.out⟩, ⟨bp_ BK632.out⟩, ⟨bl_⟩⟩
      ·rw [if_neg c19] at H
       exact absurd H (by simp)
     ·rw [if_neg c18] at H
      have c18b0 : decide (x6_1 < (l1_3.length : Int)) = false := decide_eq_false c18
      clear c18
      by_cases c32 : x633003_1.length < 17592186044416
      ·rw [if_pos c32] at H
       have LMc32 := Aside0.mk c32
       clear c32
       obtain ⟨y638, hy638⟩ : ∃ y_ : List Int, y_ = (x633003_1 ++ [rd l0_3 x6_1]) := ⟨_, rfl⟩
       replace H : (paymasterref14_Less.l0 k1 (wrap64 (x6_1 + 1)) a0_0 a0_1 a0_2 l0_3 l0_4 a1_0 a1_1 a1_2 l1_3 l1_4 (wrap64 (a0_0 - a1_0)) (wrap64 (a0_1 - a1_1)) (wrap64 (a0_2 - a1_2)) y638) = some (r1, r2, r3, r4, r5) := by first | (rw [hy638]; with_reducible exact H) | (have H2_ := (Option.bind_some _ _).symm.trans H; rw [hy638]; with_reducible exact H2_) | (have H2_ := (Option.bind_some _ _).symm.trans H; with_reducible exact H2_) | with_reducible exact H | (rw [hy638]; exact H) | exact H
       have Ny638 := Aside0.mk hy638
       clear hy638
       have H' := Aside0.mk H
       clear H
       have hnb33 := NB629_630.out
       have hnc33 := NB630_629.out
       have hnb34 := NB629_631.out
       have hnc34 := NB631_629.out
       have hnb35 := NB629_632.out
       have hnc35 := NB632_629.out
       obtain ⟨hcz36_0, hcz36_1, hcz36_2, hcz36_3, hcz36_4, hfz36_0, hfz36_1, hfz36_2, hfz36_3, hfz36_4⟩ := c5_ BK629.out
       have p633 : 0 ≤ (x6_1 : Int) := od_
       have q633 : x6_1 < (l0_3.length : Int) := od_
       obtain ⟨ad633, e633, hx633_0⟩ := Kd.at_int HR0_3.out x6_1 p633 q633
       cases e633
       replace hx633_0 := (HB.out.cell (World.block_lt_of_cell? w _ hx633_0)).trans hx633_0
       replace p633 := eq_true p633
       replace q633 := eq_true q633
       have hnb37 := NB630_631.out
       have hnc37 := NB631_630.out
       have hnb38 := NB630_632.out
       have hnc38 := NB632_630.out
       obtain ⟨hcz39_0, hcz39_1, hcz39_2, hcz39_3, hcz39_4, hfz39_0, hfz39_1, hfz39_2, hfz39_3, hfz39_4⟩ := c5_ BK630.out
       have hnb40 := NB632_631.out
       have hnc40 := NB631_632.out
       obtain ⟨hcz41_0, hcz41_1, hcz41_2, hcz41_3, hcz41_4, hfz41_0, hfz41_1, hfz41_2, hfz41_3, hfz41_4⟩ := c5_ BK632.out
       go_wp2_with (first | ((with_reducible refine gate_builtin (b := .append) (xs := #[.tmp 51, .tmp 53]) rfl ?_); at_builtin; refine Kd.R_append (Kd.int .i64) (w0 := w) w.heap.size rfl (.tmp 51) (.tmp 53) 28 3 (.int .i64 0) 8 rfl Try.underlying28 info3 rfl (by decide) (by omega) u633003 x633003_1 (rd l0_3 x6_1) [.int .i64 (rd l0_3 x6_1)] (fun _ => True) (fun _ => False) rfl rfl ?aP (fun _ hk => hk.elim) ?aF ?aO ?aB ?aS ?aL ?_; (case aP => exact rfl); (case aB => exact bl_); (case aF => exact (fun _ _ => trivial)); (case aO => exact (rs_ HO_633003.out)); (case aS => exact (below_size bl_)); (case aL => have := LMc32.out; omega); intro v639 w42 ho hb hg hat; rw [← Ny638.out] at ho; have HO640 := Aside0.mk (ho); replace BK629 := bg_ BK629.out hg (Kd.R_ne HO_633003.out BK629.out (by decide)); replace BK630 := bg_ BK630.out hg (Kd.R_ne HO_633003.out BK630.out (by decide)); replace BK631 := bg_ BK631.out hg (Kd.R_ne HO_633003.out BK631.out (by decide)); replace BK632 := bg_ BK632.out hg (Kd.R_ne HO_633003.out BK632.out (by decide)); replace HB := Aside0.mk (hb); clear HO_633003; clear ho hb hg hat; obtain ⟨Ao43, co43, eo43⟩ := Kd.R_slice HO640.out; subst eo43; obtain ⟨hcz44_0, hcz44_1, hcz44_2, hcz44_3, hcz44_4, hfz44_0, hfz44_1, hfz44_2, hfz44_3, hfz44_4⟩ := c5_ BK632.out))
       go_roundg k1
       case measure => have := HK1.out; omega
       case rel => exact ⟨(wrap64 (x6_1 + 1)), (y638), (.slice Ao43 y638.length co43), sm_, H', ⟨by have := HK1.out; omega⟩, ⟨rs_ (ty_ HO640.out BK632.out)⟩, ⟨bf_ BK629.out⟩, ⟨bf_ BK630.out⟩, ⟨bf_ BK631.out⟩, ⟨bp_ BK632.out⟩, ⟨bl_⟩⟩
      ·rw [if_neg c32] at H
       exact absurd H (by simp)
    ·rw [if_neg c17] at H
     exact absurd H (by simp)
   ·rw [if_neg c16] at H
    have c16b0 : decide (x6_1 < (l0_3.length : Int)) = false := decide_eq_false c16
    clear c16
    have H' := Aside0.mk H
    clear H
    have hnb45 := NB629_630.out
    have hnc45 := NB630_629.out
    have hnb46 := NB629_631.out
    have hnc46 := NB631_629.out
    have hnb47 := NB629_632.out
    have hnc47 := NB632_629.out
    obtain ⟨hcz48_0, hcz48_1, hcz48_2, hcz48_3, hcz48_4, hfz48_0, hfz48_1, hfz48_2, hfz48_3, hfz48_4⟩ := c5_ BK629.out
    go_wp2
    go_loopg [8] k1 (fun kq v8 w' => ∃ (x8_2 : Int) (x633004_2 : List Int) (u633004 : Value), v8 = .int .i64 x8_2 ∧ Aside0 (paymasterref14_Less.l1 kq x8_2 a0_0 a0_1 a0_2 l0_3 l0_4 a1_0 a1_1 a1_2 l1_3 l1_4 (wrap64 (a0_0 - a1_0)) (wrap64 (a0_1 - a1_1)) (wrap64 (a0_2 - a1_2)) x633003_1 x633004_2 = some (r1, r2, r3, r4, r5)) ∧ Aside0 (kq ≤ k1) ∧ Aside0 (Kd.R (Kd.int .i64) 3 w' w.heap.size (fun k_ => some k_ ≠ (u633004 : Value).ownBlock) u633003 x633003_1) ∧ Aside0 (Kd.R (Kd.int .i64) 3 w' w.heap.size (fun k_ => some k_ ≠ (u633003 : Value).ownBlock) u633004 x633004_2) ∧ Aside0 (w'.heap[gb629]? = some (.cells #[.int .i64 a0_0, .int .i64 a0_1, .int .i64 a0_2, (.slice A0_3 l0_3.length c0_3), (.slice A0_4 l0_4.length c0_4)] 35 (0, 0))) ∧ Aside0 (w'.heap[gb630]? = some (.cells #[.int .i64 a1_0, .int .i64 a1_1, .int .i64 a1_2, (.slice A1_3 l1_3.length c1_3), (.slice A1_4 l1_4.length c1_4)] 35 (0, 0))) ∧ Aside0 (w'.heap[gb631]? = some (.cells #[.int .i64 0, .int .i64 0, .int .i64 0, (.slice none 0 0), (.slice none 0 0)] 35 (0, 0))) ∧ Aside0 (w'.heap[gb632]? = some (.cells #[.int .i64 (wrap64 (a0_0 - a1_0)), .int .i64 (wrap64 (a0_1 - a1_1)), .int .i64 (wrap64 (a0_2 - a1_2)), u633003, u633004] 35 (0, 0))) ∧ Aside0 (Below w.heap.size w w'))
    case atStart => exact ⟨(0), (([] : List Int)), (.slice none 0 0), sm_, H', ⟨Nat.le_refl _⟩, ⟨rs_ HO_633003.out⟩, ⟨kn_⟩, ⟨bq_ BK629.out⟩, ⟨bq_ BK630.out⟩, ⟨bq_ BK631.out⟩, ⟨bq_ BK632.out⟩, ⟨bl_⟩⟩
    case round =>
     clear H'
     try clear c16; try clear c16b0; try clear hcz10_0; try clear hcz10_1; try clear hcz10_2; try clear hcz10_3; try clear hcz10_4; try clear hcz15_0; try clear hcz15_1; try clear hcz15_2; try clear hcz15_3; try clear hcz15_4; try clear hcz48_0; try clear hcz48_1; try clear hcz48_2; try clear hcz48_3; try clear hcz48_4; try clear hcz8_0; try clear hcz8_1; try clear hcz8_2; try clear hcz8_3; try clear hcz8_4
     try clear hfz10_0; try clear hfz10_1; try clear hfz10_2; try clear hfz10_3; try clear hfz10_4; try clear hfz15_0; try clear hfz15_1; try clear hfz15_2; try clear hfz15_3; try clear hfz15_4; try clear hfz48_0; try clear hfz48_1; try clear hfz48_2; try clear hfz48_3; try clear hfz48_4; try clear hfz8_0; try clear hfz8_1; try clear hfz8_2; try clear hfz8_3; try clear hfz8_4
     obtain ⟨x8_2, x633004_2, u633004, rfl, HA, HK2, HO_633003, HO_633004, BK629, BK630, BK631, BK632, HB⟩ := hrel
     cases gk with
     | zero => exact absurd HA.out (by simp [paymasterref14_Less.l1])
     | succ k2 =>
      have H := HA.out
      clear HA
      simp only [paymasterref14_Less.l1] at H
      by_cases c49 : x8_2 < (l0_4.length : Int)
      ·rw [if_pos c49] at H
       have c49b0 : decide (x8_2 < (l0_4.length : Int)) = true := decide_eq_true c49
       clear c49
       by_cases c50 : 0 ≤ x8_2
       ·rw [if_pos c50] at H
        have c50b0 : decide (0 ≤ x8_2) = true := decide_eq_true c50
        clear c50
        by_cases c51 : x8_2 < (l1_4.length : Int)
        ·rw [if_pos c51] at H
         have c51b0 : decide (x8_2 < (l1_4.length : Int)) = true := decide_eq_true c51
         clear c51
         by_cases c52 : x633004_2.length < 17592186044416
         ·rw [if_pos c52] at H
          have LMc52 := Aside0.mk c52
          clear c52
          obtain ⟨y643, hy643⟩ : ∃ y_ : List Int, y_ = (x633004_2 ++ [wrap64 ((rd l0_4 x8_2) - (rd l1_4 x8_2))]) := ⟨_, rfl⟩
          replace H : (paymasterref14_Less.l1 k2 (wrap64 (x8_2 + 1)) a0_0 a0_1 a0_2 l0_3 l0_4 a1_0 a1_1 a1_2 l1_3 l1_4 (wrap64 (a0_0 - a1_0)) (wrap64 (a0_1 - a1_1)) (wrap64 (a0_2 - a1_2)) x633003_1 y643) = some (r1, r2, r3, r4, r5) := by first | (rw [hy643]; with_reducible exact H) | (have H2_ := (Option.bind_some _ _).symm.trans H; rw [hy643]; with_reducible exact H2_) | (have H2_ := (Option.bind_some _ _).symm.trans H; with_reducible exact H2_) | with_reducible exact H | (rw [hy643]; exact H) | exact H
          have Ny643 := Aside0.mk hy643
          clear hy643
          have H' := Aside0.mk H
          clear H
          have hnb53 := NB629_630.out
          have hnc53 := NB630_629.out
          have hnb54 := NB629_631.out
          have hnc54 := NB631_629.out
          have hnb55 := NB629_632.out
          have hnc55 := NB632_629.out
          obtain ⟨hcz56_0, hcz56_1, hcz56_2, hcz56_3, hcz56_4, hfz56_0, hfz56_1, hfz56_2, hfz56_3, hfz56_4⟩ := c5_ BK629.out
          have p641 : 0 ≤ (x8_2 : Int) := od_
          have q641 : x8_2 < (l0_4.length : Int) := od_
          obtain ⟨ad641, e641, hx641_0⟩ := Kd.at_int HR0_4.out x8_2 p641 q641
          cases e641
          replace hx641_0 := (HB.out.cell (World.block_lt_of_cell? w _ hx641_0)).trans hx641_0
          replace p641 := eq_true p641
          replace q641 := eq_true q641
          have hnb57 := NB630_631.out
          have hnc57 := NB631_630.out
          have hnb58 := NB630_632.out
          have hnc58 := NB632_630.out
          obtain ⟨hcz59_0, hcz59_1, hcz59_2, hcz59_3, hcz59_4, hfz59_0, hfz59_1, hfz59_2, hfz59_3, hfz59_4⟩ := c5_ BK630.out
          have p642 : 0 ≤ (x8_2 : Int) := od_
          have q642 : x8_2 < (l1_4.length : Int) := od_
          obtain ⟨ad642, e642, hx642_0⟩ := Kd.at_int HR1_4.out x8_2 p642 q642
          cases e642
          replace hx642_0 := (HB.out.cell (World.block_lt_of_cell? w _ hx642_0)).trans hx642_0
          replace p642 := eq_true p642
          replace q642 := eq_true q642
          have hnb60 := NB632_631.out
          have hnc60 := NB631_632.out
          obtain ⟨hcz61_0, hcz61_1, hcz61_2, hcz61_3, hcz61_4, hfz61_0, hfz61_1, hfz61_2, hfz61_3, hfz61_4⟩ := c5_ BK632.out
          go_wp2_with (first | ((with_reducible refine gate_builtin (b := .append) (xs := #[.tmp 81, .tmp 83]) rfl ?_); at_builtin; refine Kd.R_append (Kd.int .i64) (w0 := w) w.heap.size rfl (.tmp 81) (.tmp 83) 28 3 (.int .i64 0) 8 rfl Try.underlying28 info3 rfl (by decide) (by omega) u633004 x633004_2 (wrap64 ((rd l0_4 x8_2) - (rd l1_4 x8_2))) [.int .i64 (wrap64 ((rd l0_4 x8_2) - (rd l1_4 x8_2)))] (fun k_ => some k_ ≠ (u633003 : Value).ownBlock) (fun _ => False) rfl rfl ?aP (fun _ hk => hk.elim) ?aF ?aO ?aB ?aS ?aL ?_; (case aP => exact rfl); (case aB => exact bl_); (case aF => exact (fun k_ hk => fr_ HO_633003.out hk)); (case aO => exact (rs_ HO_633004.out)); (case aS => exact (below_size bl_)); (case aL => have := LMc52.out; omega); intro v644 w62 ho hb hg hat; rw [← Ny643.out] at ho; have HO645 := Aside0.mk (ho); replace HO_633003 := ra_ HO_633003.out hg hat; replace BK629 := bg_ BK629.out hg (Kd.R_ne HO_633004.out BK629.out (by decide)); replace BK630 := bg_ BK630.out hg (Kd.R_ne HO_633004.out BK630.out (by decide)); replace BK631 := bg_ BK631.out hg (Kd.R_ne HO_633004.out BK631.out (by decide)); replace BK632 := bg_ BK632.out hg (Kd.R_ne HO_633004.out BK632.out (by decide)); replace HB := Aside0.mk (hb); clear HO_633004; clear ho hb hg hat; obtain ⟨Ao63, co63, eo63⟩ := Kd.R_slice HO645.out; subst eo63; obtain ⟨hcz64_0, hcz64_1, hcz64_2, hcz64_3, hcz64_4, hfz64_0, hfz64_1, hfz64_2, hfz64_3, hfz64_4⟩ := c5_ BK632.out))
          go_roundg k2
          case measure => have := HK1.out; have := HK2.out; omega
          case rel => exact ⟨(wrap64 (x8_2 + 1)), (y643), (.slice Ao63 y643.length co63), sm_, H', ⟨by have := HK1.out; have := HK2.out; omega⟩, ⟨rs_ (ty_ HO_633003.out BK632.out)⟩, ⟨rs_ (ty_ HO645.out BK632.out)⟩, ⟨bf_ BK629.out⟩, ⟨bf_ BK630.out⟩, ⟨bf_ BK631.out⟩, ⟨bp_ BK632.out⟩, ⟨bl_⟩⟩
         ·rw [if_neg c52] at H
          exact absurd H (by simp)
        ·rw [if_neg c51] at H
         have c51b0 : decide (x8_2 < (l1_4.length : Int)) = false := decide_eq_false c51
         clear c51
         by_cases c65 : x633004_2.length < 17592186044416
         ·rw [if_pos c65] at H
          have LMc65 := Aside0.mk c65
          clear c65
          obtain ⟨y646, hy646⟩ : ∃ y_ : List Int, y_ = (x633004_2 ++ [rd l0_4 x8_2]) := ⟨_, rfl⟩
          replace H : (paymasterref14_Less.l1 k2 (wrap64 (x8_2 + 1)) a0_0 a0_1 a0_2 l0_3 l0_4 a1_0 a1_1 a1_2 l1_3 l1_4 (wrap64 (a0_0 - a1_0)) (wrap64 (a0_1 - a1_1)) (wrap64 (a0_2 - a1_2)) x633003_1 y646) = some (r1, r2, r3, r4, r5) := by first | (rw [hy646]; with_reducible exact H) | (have H2_ := (Option.bind_some _ _).symm.trans H; rw [hy646]; with_reducible exact H2_) | (have H2_ := (Option.bind_some _ _).symm.trans H; with_reducible exact H2_) | with_reducible exact H | (rw [hy646]; exact H) | exact H
          have Ny646 := Aside0.mk hy646
          clear hy646
          have H' := Aside0.mk H
          clear H
          have hnb66 := NB629_630.out
          have hnc66 := NB630_629.out
          have hnb67 := NB629_631.out
          have hnc67 := NB631_629.out
          have hnb68 := NB629_632.out
          have hnc68 := NB632_629.out
          obtain ⟨hcz69_0, hcz69_1, hcz69_2, hcz69_3, hcz69_4, hfz69_0, hfz69_1, hfz69_2, hfz69_3, hfz69_4⟩ := c5_ BK629.out
          have p641 : 0 ≤ (x8_2 : Int) := od_
          have q641 : x8_2 < (l0_4.length : Int) := od_
          obtain ⟨ad641, e641, hx641_0⟩ := Kd.at_int HR0_4.out x8_2 p641 q641
          cases e641
          replace hx641_0 := (HB.out.cell (World.block_lt_of_cell? w _ hx641_0)).trans hx641_0
          replace p641 := eq_true p641
          replace q641 := eq_true q641
          have hnb70 := NB630_631.out
          have hnc70 := NB631_630.out
          have hnb71 := NB630_632.out
          have hnc71 := NB632_630.out
          obtain ⟨hcz72_0, hcz72_1, hcz72_2, hcz72_3, hcz72_4, hfz72_0, hfz72_1, hfz72_2, hfz72_3, hfz72_4⟩ := c5_ BK630.out
          have hnb73 := NB632_631.out
          have hnc73 := NB631_632.out
          obtain ⟨hcz74_0, hcz74_1, hcz74_2, hcz74_3, hcz74_4, hfz74_0, hfz74_1, hfz74_2, hfz74_3, hfz74_4⟩ := c5_ BK632.out
          go_wp2_with (first | ((with_reducible refine gate_builtin (b := .append) (xs := #[.tmp 81, .tmp 83]) rfl ?_); at_builtin; refine Kd.R_append (Kd.int .i64) (w0 := w) w.heap.size rfl (.tmp 81) (.tmp 83) 28 3 (.int .i64 0) 8 rfl Try.underlying28 info3 rfl (by decide) (by omega) u633004 x633004_2 (rd l0_4 x8_2) [.int .i64 (rd l0_4 x8_2)] (fun k_ => some k_ ≠ (u633003 : Value).ownBlock) (fun _ => False) rfl rfl ?aP (fun _ hk => hk.elim) ?aF ?aO ?aB ?aS ?aL ?_; (case aP => exact rfl); (case aB => exact bl_); (case aF => exact (fun k_ hk => fr_ HO_633003.out hk)); (case aO => exact (rs_ HO_633004.out)); (case aS => exact (below_size bl_)); (case aL => have := LMc65.out; omega); intro v647 w75 ho hb hg hat; rw [← Ny646.out] at ho; have HO648 := Aside0.mk (ho); replace HO_633003 := ra_ HO_633003.out hg hat; replace BK629 := bg_ BK629.out hg (Kd.R_ne HO_633004.out BK629.out (by decide)); replace BK630 := bg_ BK630.out hg (Kd.R_ne HO_633004.out BK630.out (by decide)); replace BK631 := bg_ BK631.out hg (Kd.R_ne HO_633004.out BK631.out (by decide)); replace BK632 := bg_ BK632.out hg (Kd.R_ne HO_633004.out BK632.out (by decide)); replace HB := Aside0.mk (hb); clear HO_633004; clear ho hb hg hat; obtain ⟨Ao76, co76, eo76⟩ := Kd.R_slice HO648.out; subst eo76; obtain ⟨hcz77_0, hcz77_1, hcz77_2, hcz77_3, hcz77_4, hfz77_0, hfz77_1, hfz77_2, hfz77_3, hfz77_4⟩ := c5_ BK632.out))
          go_roundg k2
          case measure => have := HK1.out; have := HK2.out; omega
          case rel => exact ⟨(wrap64 (x8_2 + 1)), (y646), (.slice Ao76 y646.length co76), sm_, H', ⟨by have := HK1.out; have := HK2.out; omega⟩, ⟨rs_ (ty_ HO_633003.out BK632.out)⟩, ⟨rs_ (ty_ HO648.out BK632.out)⟩, ⟨bf_ BK629.out⟩, ⟨bf_ BK630.out⟩, ⟨bf_ BK631.out⟩, ⟨bp_ BK632.out⟩, ⟨bl_⟩⟩
         ·rw [if_neg c65] at H
          exact absurd H (by simp)
       ·rw [if_neg c50] at H
        exact absurd H (by simp)
      ·rw [if_neg c49] at H
       have c49b0 : decide (x8_2 < (l0_4.length : Int)) = false := decide_eq_false c49
       clear c49
       simp only [Option.some.injEq, Prod.mk.injEq] at H
       obtain ⟨rfl, rfl, rfl, rfl, rfl⟩ := H
       have hnb78 := NB629_630.out
       have hnc78 := NB630_629.out
       have hnb79 := NB629_631.out
       have hnc79 := NB631_629.out
       have hnb80 := NB629_632.out
       have hnc80 := NB632_629.out
       obtain ⟨hcz81_0, hcz81_1, hcz81_2, hcz81_3, hcz81_4, hfz81_0, hfz81_1, hfz81_2, hfz81_3, hfz81_4⟩ := c5_ BK629.out
       have hnb82 := NB632_630.out
       have hnc82 := NB630_632.out
       have hnb83 := NB632_631.out
       have hnc83 := NB631_632.out
       obtain ⟨hcz84_0, hcz84_1, hcz84_2, hcz84_3, hcz84_4, hfz84_0, hfz84_1, hfz84_2, hfz84_3, hfz84_4⟩ := c5_ BK632.out
       have hnb85 := NB631_630.out
       have hnc85 := NB630_631.out
       obtain ⟨hcz86_0, hcz86_1, hcz86_2, hcz86_3, hcz86_4, hfz86_0, hfz86_1, hfz86_2, hfz86_3, hfz86_4⟩ := c5_ BK631.out
       obtain ⟨Ao87, co87, eo87⟩ := Kd.R_slice HO_633003.out
       subst eo87
       obtain ⟨Ao88, co88, eo88⟩ := Kd.R_slice HO_633004.out
       subst eo88
       go_wp2
       refine bodyPost_ret (results_cell_row rfl _ _ gb631 35 #[.int .i64 (wrap64 (a0_0 - a1_0)), .int .i64 (wrap64 (a0_1 - a1_1)), .int .i64 (wrap64 (a0_2 - a1_2)), .slice Ao87 x633003_1.length co87, .slice Ao88 x633004_2.length co88] (0, 0) _ rfl (bp_ BK631.out) Try.underlying35 rfl (by kernel_rfl)) rfl ?_
       exact ⟨_, _, se_, by refine kr_ ?_; exact Kd.R_mono (rf5_ (Kd.R_types HO_633003.out BK631.out (by decide))) (fun _ hk => hk.1), by refine kr_ ?_; exact Kd.R_mono (rf5_ (Kd.R_types HO_633004.out BK631.out (by decide))) (fun _ hk => hk.1), bl_⟩

-- NOT PRINTED: function 6 (paymasterlaw14_WithholdStep)

-- NOT PRINTED: function 7 (paymasterlaw14_WithholdYear)

end Go.Proofs.Ytocaneaofdbpoaa.PA
