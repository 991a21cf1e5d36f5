/- Contracts of the functions of the given program: written by wip/pmprint.py, a program of this session, which runs the print of the kit over altered functions. -/
import Derived.Test.YtocaneaofdbpoaaPAx0
import Derived.Test.YtocaneaofdbpoaaPAx1
import Derived.Test.YtocaneaofdbpoaaPAx5
import Derived.Test.YtocaneaofdbpoaaPAx7
import Derived.Test.YtocaneaofdbpoaaPAx8
import Derived.Test.YtocaneaofdbpoaaPAx10
namespace Go.Proofs.Ytocaneaofdbpoaa.PA
open Go.RowKit Go.Proofs.YtocaneaofdbpoaaW.PrintWords Go.Proofs.YtocaneaofdbpoaaW.PrintLast Go.Proofs.YtocaneaofdbpoaaW.PrintMore
attribute [local go_sem] max2_int min2_int max_two min_two max_three min_three max_four min_four   -- for this text's walks alone
set_option linter.unusedVariables false
set_option linter.unusedSimpArgs false

/-! ### paymasterlaw14_WithholdYear: function 7 -/
mutual
def paymasterlaw14_WithholdYear.j0 : Nat → List (S58) → Bool → List (S58) → List (S41) → Option (Bool)
  | 0, _, _, _, _ => none
  | k + 1, x1, x28, x286000, x286001 => if x28 = true then ((paymasterlaw14_awake.f k).bind fun t287 => (some t287)) else (if 0 ≤ (x286001.length : Int) then (if ((x286001.length : Int) : Int).toNat ≤ 35184372088832 then (paymasterlaw14_WithholdYear.l0 k x1 0 0 0 (List.replicate ((x286001.length : Int) : Int).toNat 0) x1 (x1.length : Int) 0 x286000 x286001 0 0 0 ([] : List Int) ([] : List Int)) else (none)) else (none))
def paymasterlaw14_WithholdYear.l0 : Nat → List (S58) → Int → Int → Int → List Int → List (S58) → Int → Int → List (S58) → List (S41) → Int → Int → Int → List Int → List Int → Option (Bool)
  | 0, _, _, _, _, _, _, _, _, _, _, _, _, _, _, _ => none
  | k + 1, x1, x6, x7, x8, x9, x34, x35, x36, x286000, x286001, x289000, x289001, x289002, x289003, x289004 => if x36 < x35 then (if 0 ≤ x36 then (if x36 < (x34.length : Int) then ((withhold_Step.f k x286000 x286001 x289000 x289001 x289002 x289003 x289004 (Int.tmod ((rd_T58 x34 x36).f0) 1099511627776) (Int.tmod ((rd_T58 x34 x36).f1) 1099511627776)).bind fun bt294 => (if bt294.2.2.2.2.2.2.2.2.2.2 = 0 then (if (bt294.2.2.2.2.2.2.2.2.1.length : Int) = (x9.length : Int) then (if (wrap64 (x8 + bt294.2.2.2.2.2.2.2.1)) < 0 then (paymasterlaw14_WithholdYear.j2 k x1 (wrap64 (x6 + (Int.tmod ((rd_T58 x34 x36).f0) 1099511627776))) (wrap64 (x7 + (Int.tmod ((rd_T58 x34 x36).f1) 1099511627776))) (wrap64 (x8 + bt294.2.2.2.2.2.2.2.1)) x9 x34 x35 x36 true x286000 x286001 bt294.1 bt294.2.1 bt294.2.2.1 bt294.2.2.2.1 bt294.2.2.2.2.1 bt294.2.2.2.2.2.1 bt294.2.2.2.2.2.2.1 bt294.2.2.2.2.2.2.2.1 bt294.2.2.2.2.2.2.2.2.1 bt294.2.2.2.2.2.2.2.2.2.1) else (paymasterlaw14_WithholdYear.j2 k x1 (wrap64 (x6 + (Int.tmod ((rd_T58 x34 x36).f0) 1099511627776))) (wrap64 (x7 + (Int.tmod ((rd_T58 x34 x36).f1) 1099511627776))) (wrap64 (x8 + bt294.2.2.2.2.2.2.2.1)) x9 x34 x35 x36 (decide ((wrap64 (x8 + bt294.2.2.2.2.2.2.2.1)) > (mx (wrap64 (x6 + (Int.tmod ((rd_T58 x34 x36).f0) 1099511627776))) 0))) x286000 x286001 bt294.1 bt294.2.1 bt294.2.2.1 bt294.2.2.2.1 bt294.2.2.2.2.1 bt294.2.2.2.2.2.1 bt294.2.2.2.2.2.2.1 bt294.2.2.2.2.2.2.2.1 bt294.2.2.2.2.2.2.2.2.1 bt294.2.2.2.2.2.2.2.2.2.1)) else (paymasterlaw14_WithholdYear.j2 k x1 (wrap64 (x6 + (Int.tmod ((rd_T58 x34 x36).f0) 1099511627776))) (wrap64 (x7 + (Int.tmod ((rd_T58 x34 x36).f1) 1099511627776))) (wrap64 (x8 + bt294.2.2.2.2.2.2.2.1)) x9 x34 x35 x36 true x286000 x286001 bt294.1 bt294.2.1 bt294.2.2.1 bt294.2.2.2.1 bt294.2.2.2.2.1 bt294.2.2.2.2.2.1 bt294.2.2.2.2.2.2.1 bt294.2.2.2.2.2.2.2.1 bt294.2.2.2.2.2.2.2.2.1 bt294.2.2.2.2.2.2.2.2.2.1)) else (if bt294.2.2.2.2.2.2.2.2.2.2 = 1 then ((withhold_Right.f k x286000 x286001).bind fun t315 => (if t315 = true then (none) else ((paymasterlaw14_awake.f k).bind fun t316 => (some t316)))) else (none)))) else (none)) else (none)) else ((withhold_Due.f k x286000 x286001 x6 x7).bind fun bt321 => (if bt321.2.2.2.2.2 = 0 then (if (bt321.2.2.2.1.length : Int) = (x9.length : Int) then (paymasterlaw14_WithholdYear.j4 k x1 x9 (bt321.2.2.1 != x8) x289000 x289001 x289002 x289003 x289004 bt321.1 bt321.2.1 bt321.2.2.1 bt321.2.2.2.1 bt321.2.2.2.2.1) else (paymasterlaw14_WithholdYear.j4 k x1 x9 true x289000 x289001 x289002 x289003 x289004 bt321.1 bt321.2.1 bt321.2.2.1 bt321.2.2.2.1 bt321.2.2.2.2.1)) else (if (x1.length : Int) = 0 then ((paymasterlaw14_awake.f k).bind fun t332 => (some t332)) else (none))))
def paymasterlaw14_WithholdYear.j2 : Nat → List (S58) → Int → Int → Int → List Int → List (S58) → Int → Int → Bool → List (S58) → List (S41) → Int → Int → Int → List Int → List Int → Int → Int → Int → List Int → List Int → Option (Bool)
  | 0, _, _, _, _, _, _, _, _, _, _, _, _, _, _, _, _, _, _, _, _, _ => none
  | k + 1, x1, x6, x7, x8, x9, x34, x35, x36, x92, x286000, x286001, x314000, x314001, x314002, x314003, x314004, x315000, x315001, x315002, x315003, x315004 => if x92 = true then (none) else (paymasterlaw14_WithholdYear.l1 k x1 x6 x7 x8 x9 x34 x35 x36 (x9.length : Int) 0 x286000 x286001 x314000 x314001 x314002 x314003 x314004 x315000 x315001 x315002 x315003 x315004)
def paymasterlaw14_WithholdYear.l1 : Nat → List (S58) → Int → Int → Int → List Int → List (S58) → Int → Int → Int → Int → List (S58) → List (S41) → Int → Int → Int → List Int → List Int → Int → Int → Int → List Int → List Int → Option (Bool)
  | 0, _, _, _, _, _, _, _, _, _, _, _, _, _, _, _, _, _, _, _, _, _, _ => none
  | k + 1, x1, x6, x7, x8, x9, x34, x35, x36, x94, x95, x286000, x286001, x314000, x314001, x314002, x314003, x314004, x315000, x315001, x315002, x315003, x315004 => if x95 < x94 then (if 0 ≤ x95 then (if x95 < (x9.length : Int) then (if x95 < (x315003.length : Int) then (if (wrap64 ((rd x9 x95) + (rd x315003 x95))) < 0 then (none) else (paymasterlaw14_WithholdYear.l1 k x1 x6 x7 x8 (x9.set (x95 : Int).toNat (wrap64 ((rd x9 x95) + (rd x315003 x95)))) x34 x35 x36 x94 (wrap64 (x95 + 1)) x286000 x286001 x314000 x314001 x314002 x314003 x314004 x315000 x315001 x315002 x315003 x315004)) else (none)) else (none)) else (none)) else (paymasterlaw14_WithholdYear.l0 k x1 x6 x7 x8 x9 x34 x35 (wrap64 (x36 + 1)) x286000 x286001 x314000 x314001 x314002 x314003 x314004)
def paymasterlaw14_WithholdYear.j4 : Nat → List (S58) → List Int → Bool → Int → Int → Int → List Int → List Int → Int → Int → Int → List Int → List Int → Option (Bool)
  | 0, _, _, _, _, _, _, _, _, _, _, _, _, _ => none
  | k + 1, x1, x9, x143, x289000, x289001, x289002, x289003, x289004, x332000, x332001, x332002, x332003, x332004 => if x143 = true then (none) else (paymasterlaw14_WithholdYear.l2 k x1 x9 (x9.length : Int) 0 x289000 x289001 x289002 x289003 x289004 x332000 x332001 x332002 x332003 x332004)
def paymasterlaw14_WithholdYear.l2 : Nat → List (S58) → List Int → Int → Int → Int → Int → Int → List Int → List Int → Int → Int → Int → List Int → List Int → Option (Bool)
  | 0, _, _, _, _, _, _, _, _, _, _, _, _, _, _ => none
  | k + 1, x1, x9, x145, x146, x289000, x289001, x289002, x289003, x289004, x332000, x332001, x332002, x332003, x332004 => if x146 < x145 then (if 0 ≤ x146 then (if x146 < (x332003.length : Int) then (if x146 < (x9.length : Int) then (if (rd x332003 x146) = (rd x9 x146) then (paymasterlaw14_WithholdYear.l2 k x1 x9 x145 (wrap64 (x146 + 1)) x289000 x289001 x289002 x289003 x289004 x332000 x332001 x332002 x332003 x332004) else (none)) else (none)) else (none)) else (none)) else (if (x1.length : Int) = 0 then ((paymasterlaw14_awake.f k).bind fun t335 => (some t335)) else ((paymasterref14_Same.f k x332000 x332001 x332002 x332003 x332004 x289000 x289001 x289002 x289003 x289004).bind fun t336 => (if t336 = true then ((paymasterlaw14_awake.f k).bind fun t337 => (some t337)) else (none))))
end
def paymasterlaw14_WithholdYear.f (k : Nat) (l0_0 : List (S58)) (l0_1 : List (S41)) (l1 : List (S58)) : Option (Bool) := (paymasterlaw14_small.f l0_0 l0_1).bind fun t286 => (if t286 = true then (paymasterlaw14_WithholdYear.j0 k l1 (decide ((l1.length : Int) > 24)) l0_0 l0_1) else (paymasterlaw14_WithholdYear.j0 k l1 true l0_0 l0_1))
def paymasterlaw14_WithholdYear.T9 : Bool × List (List Nat × List Nat) := (true, [([], []), ([0], [0]), ([1], [1]), ([], []), ([3], [3]), ([4], [4]), ([2, 0, 1, 2], [2]), ([5, 6, 0, 1, 2, 3, 4, 5, 6], [5])])
def paymasterlaw14_WithholdYear.B9 : List Nat := [0, 1, 3, 0, 8, 24, 7, 127]
theorem paymasterlaw14_WithholdYear.tab9 : rtab .any (opsOf Try.f7 9) = paymasterlaw14_WithholdYear.T9 := by kernel_rfl
theorem paymasterlaw14_WithholdYear.bits9 : waitsOk paymasterlaw14_WithholdYear.T9.2 paymasterlaw14_WithholdYear.B9 = true := by kernel_rfl
def paymasterlaw14_WithholdYear.T13 : Bool × List (List Nat × List Nat) := (true, [([], []), ([], []), ([0, 1], [0, 1]), ([], []), ([], []), ([3, 4], [3, 4]), ([], []), ([], []), ([7], [7]), ([6, 8], [6, 8]), ([2, 0, 1, 2], [0, 2]), ([5, 10, 0, 1, 2, 3, 4, 5, 10], [3, 5]), ([9, 11, 0, 1, 2, 3, 4, 5, 6, 7, 8, 9, 10, 11], [6, 9])])
def paymasterlaw14_WithholdYear.B13 : List Nat := [0, 0, 3, 0, 0, 24, 0, 0, 128, 448, 7, 1087, 4095]
theorem paymasterlaw14_WithholdYear.tab13 : rtab .any (opsOf Try.f7 13) = paymasterlaw14_WithholdYear.T13 := by kernel_rfl
theorem paymasterlaw14_WithholdYear.bits13 : waitsOk paymasterlaw14_WithholdYear.T13.2 paymasterlaw14_WithholdYear.B13 = true := by kernel_rfl
def paymasterlaw14_WithholdYear.T19 : Bool × List (List Nat × List Nat) := (true, [([], []), ([], []), ([0, 1], [0, 1]), ([2], [2]), ([], []), ([4], [4]), ([], []), ([5, 6], [5, 6]), ([7], [7]), ([3, 8], [3, 8]), ([0, 1, 0, 1, 2, 3, 4, 5, 6, 7, 8, 9], [0, 1]), ([10, 9, 0, 1, 2, 3, 4, 5, 6, 7, 8, 9], [9, 10])])
def paymasterlaw14_WithholdYear.B19 : List Nat := [0, 0, 3, 7, 0, 16, 0, 112, 240, 511, 1023, 2047]
theorem paymasterlaw14_WithholdYear.tab19 : rtab .any (opsOf Try.f7 19) = paymasterlaw14_WithholdYear.T19 := by kernel_rfl
theorem paymasterlaw14_WithholdYear.bits19 : waitsOk paymasterlaw14_WithholdYear.T19.2 paymasterlaw14_WithholdYear.B19 = true := by kernel_rfl
def paymasterlaw14_WithholdYear.T33 : Bool × List (List Nat × List Nat) := (true, [([], []), ([0], [0]), ([], []), ([1, 2], [1, 2]), ([3], [3]), ([], []), ([], []), ([5, 6], [5, 6]), ([7], [7]), ([4, 8], [4, 8])])
def paymasterlaw14_WithholdYear.B33 : List Nat := [0, 1, 0, 7, 15, 0, 0, 96, 224, 511]
theorem paymasterlaw14_WithholdYear.tab33 : rtab .any (opsOf Try.f7 33) = paymasterlaw14_WithholdYear.T33 := by kernel_rfl
theorem paymasterlaw14_WithholdYear.bits33 : waitsOk paymasterlaw14_WithholdYear.T33.2 paymasterlaw14_WithholdYear.B33 = true := by kernel_rfl
set_option maxHeartbeats 8000000 in
set_option maxRecDepth 100000 in
theorem paymasterlaw14_WithholdYear.calls (k : Nat) (A0_0 : Option Addr) (c0_0 : Nat) (l0_0 : List (S58)) (A0_1 : Option Addr) (c0_1 : Nat) (l0_1 : List (S41)) (A1 : Option Addr) (c1 : Nat) (l1 : List (S58)) (r : Bool) (w : World) (hr0_0 : Kd.C k58 w A0_0 l0_0.length l0_0) (hc0_0 : l0_0.length ≤ c0_0) (hr0_1 : Kd.C k41 w A0_1 l0_1.length l0_1) (hc0_1 : l0_1.length ≤ c0_1) (hr1 : Kd.C k58 w A1 l1.length l1) (hc1 : l1.length ≤ c1) (h : paymasterlaw14_WithholdYear.f k l0_0 l0_1 l1 = some r) :
    Calls Try.prog 7 #[.agg #[.slice A0_0 l0_0.length c0_0, .slice A0_1 l0_1.length c0_1], .slice A1 l1.length c1] w fun e w' => e = .returned (.bool r) ∧ Below w.heap.size w w' := by
 have hu25 := Try.underlying25
 have hu30 := Try.underlying30
 have hu58 := Try.underlying58
 have HR0_0 := Aside0.mk hr0_0
 have HC0_0 := Aside0.mk hc0_0
 clear hr0_0 hc0_0
 have HR0_1 := Aside0.mk hr0_1
 have HC0_1 := Aside0.mk hc0_1
 clear hr0_1 hc0_1
 have HR1 := Aside0.mk hr1
 have HC1 := Aside0.mk hc1
 clear hr1 hc1
 have HB := Aside0.mk (Below.refl w.heap.size w)
 have H : ((paymasterlaw14_small.f l0_0 l0_1).bind fun t286 => (if t286 = true then (paymasterlaw14_WithholdYear.j0 k l1 (decide ((l1.length : Int) > 24)) l0_0 l0_1) else (paymasterlaw14_WithholdYear.j0 k l1 true l0_0 l0_1))) = some r := h
 clear h
 have HC3 := Aside0.mk H
 clear H
 go_enter Try.func7, Try.ntmps7
 go_upto_region 1 with (first | ((with_reducible refine gate_dst (N := 2) rfl ?_); (try (refine gate_guard (by rfl) ?_; dsimp only)); refine bx_ 2 #[.slice A0_0 l0_0.length c0_0, .slice A0_1 l0_1.length c0_1] 25 ?_; intro gb285 hg w4 hbox hb; have BK285 := Aside0.mk hbox; have GW285 := gs_ hg; have GE285 := gs_ hg; replace HB := hs_ hb; clear hb hbox hg))
 (try simp only [Act.put, List.setIfInBounds_toArray, List.set_cons_zero, List.set_cons_succ])
 go_cut [28] (fun v28 wc => ∃ (kq : Nat) (x28_2 : Bool), v28 = .bool x28_2 ∧ Aside0 (paymasterlaw14_WithholdYear.j0 kq l1 x28_2 l0_0 l0_1 = some r) ∧ Aside0 (kq ≤ k) ∧ Aside0 (wc.heap[gb285]? = some (.cells #[(.slice A0_0 l0_0.length c0_0), (.slice A0_1 l0_1.length c0_1)] 25 (0, 0))) ∧ Aside0 (Below w.heap.size w wc))
 case first =>
  have H := HC3.out
  clear HC3
  replace H := Option.bind_eq_some_iff.mp H
  obtain ⟨t286, A50, H⟩ := H
  (try dsimp only at H)
  have A5 := Aside0.mk A50
  clear A50
  by_cases c6 : t286 = true
  ·subst c6
   rw [if_pos rfl] at H
   have H' := Aside0.mk H
   clear H
   obtain ⟨hcz7_0, hcz7_1, hfz7_0, hfz7_1⟩ := c2_ BK285.out
   go_wp2_with (first | ((with_reducible refine gate_callee (f := 9) rfl ?_); refine goesL_ (some 22) rfl rfl Try.func9 (by kernel_rfl) rfl #[.agg #[.slice A0_0 l0_0.length c0_0, .slice A0_1 l0_1.length c0_1]] rfl ga_ ?_; (with_reducible refine (paymasterlaw14_small.calls _ _ l0_0 _ _ l0_1 true _ ?side1 ?side2 ?side3 ?side4 A5.out).mono ?_); (case side1 => exact kc_ (Kd.C_below HR0_0.out HB.out)); (case side2 => exact HC0_0.out); (case side3 => exact kc_ (Kd.C_below HR0_1.out HB.out)); (case side4 => exact HC0_1.out); rintro e w8 ⟨rfl, hb⟩; refine ⟨_, rfl, ?_⟩; replace BK285 := bb_ BK285.out hb; replace HB := hs_ hb; (try clear hb); (try clear hb2); (try clear hk); (try clear hi)))
   go_meet
   case rel => exact ⟨_, (decide ((l1.length : Int) > 24)), sm_, H', ⟨by first | omega | exact Nat.le_refl _⟩, ⟨bq_ BK285.out⟩, ⟨bl_⟩⟩
  ·replace c6 := Bool.eq_false_iff.mpr c6
   subst c6
   rw [if_neg (show ¬ (false = true) by decide)] at H
   have H' := Aside0.mk H
   clear H
   obtain ⟨hcz9_0, hcz9_1, hfz9_0, hfz9_1⟩ := c2_ BK285.out
   go_wp2_with (first | ((with_reducible refine gate_callee (f := 9) rfl ?_); refine goesL_ (some 22) rfl rfl Try.func9 (by kernel_rfl) rfl #[.agg #[.slice A0_0 l0_0.length c0_0, .slice A0_1 l0_1.length c0_1]] rfl ga_ ?_; (with_reducible refine (paymasterlaw14_small.calls _ _ l0_0 _ _ l0_1 false _ ?side1 ?side2 ?side3 ?side4 A5.out).mono ?_); (case side1 => exact kc_ (Kd.C_below HR0_0.out HB.out)); (case side2 => exact HC0_0.out); (case side3 => exact kc_ (Kd.C_below HR0_1.out HB.out)); (case side4 => exact HC0_1.out); rintro e w10 ⟨rfl, hb⟩; refine ⟨_, rfl, ?_⟩; replace BK285 := bb_ BK285.out hb; replace HB := hs_ hb; (try clear hb); (try clear hb2); (try clear hk); (try clear hi)))
   go_meet
   case rel => exact ⟨_, (true), sm_, H', ⟨by first | omega | exact Nat.le_refl _⟩, ⟨bq_ BK285.out⟩, ⟨bl_⟩⟩
 case rest =>
  clear HC3
  try clear c1
  obtain ⟨kq, x28_2, rfl, HA, HJ2, BK285, HB⟩ := hcut
  cases kq with
  | zero => exact absurd HA.out (by simp [paymasterlaw14_WithholdYear.j0])
  | succ kj2 =>
   have H := HA.out
   clear HA
   simp only [paymasterlaw14_WithholdYear.j0] at H
   by_cases c11 : x28_2 = true
   ·subst c11
    rw [if_pos rfl] at H
    replace H := Option.bind_eq_some_iff.mp H
    obtain ⟨t287, A120, H⟩ := H
    (try dsimp only at H)
    have A12 := Aside0.mk A120
    clear A120
    obtain rfl := Option.some.inj H
    go_wp2_with (first | ((with_reducible refine gate_callee (f := 10) rfl ?_); refine goesL_ (some 29) rfl rfl Try.func10 (by kernel_rfl) rfl #[] rfl ga_ ?_; (with_reducible refine (paymasterlaw14_awake.calls kj2  t287 _ A12.out).mono ?_); rintro e w13 ⟨rfl, hb⟩; refine ⟨_, rfl, ?_⟩; replace BK285 := bb_ BK285.out hb; replace HB := hs_ hb; (try clear hb); (try clear hb2); (try clear hk); (try clear hi)))
    go_ret
    exact ⟨se_, bl_⟩
   ·replace c11 := Bool.eq_false_iff.mpr c11
    subst c11
    rw [if_neg (show ¬ (false = true) by decide)] at H
    by_cases c14 : 0 ≤ (l0_1.length : Int)
    ·rw [if_pos c14] at H
     have c14b0 := eq_true c14
     have c14b1 : decide (0 ≤ (l0_1.length : Int)) = true := decide_eq_true c14
     clear c14
     by_cases c15 : ((l0_1.length : Int) : Int).toNat ≤ 35184372088832
     ·rw [if_pos c15] at H
      have c15b0 := eq_true c15
      have c15b1 : decide (((l0_1.length : Int) : Int).toNat ≤ 35184372088832) = true := decide_eq_true c15
      clear c15
      obtain ⟨y289, hy289⟩ : ∃ y_ : List Int, y_ = (List.replicate ((l0_1.length : Int) : Int).toNat 0) := ⟨_, rfl⟩
      replace H : (paymasterlaw14_WithholdYear.l0 kj2 l1 0 0 0 y289 l1 (l1.length : Int) 0 l0_0 l0_1 0 0 0 ([] : List Int) ([] : List Int)) = some r := by first | (rw [hy289]; with_reducible exact H) | (have H2_ := (Option.bind_some _ _).symm.trans H; rw [hy289]; with_reducible exact H2_) | (have H2_ := (Option.bind_some _ _).symm.trans H; with_reducible exact H2_) | with_reducible exact H | (rw [hy289]; exact H) | exact H
      have Ny289 := Aside0.mk hy289
      clear hy289
      have H' := Aside0.mk H
      clear H
      go_wp2_with (first | ((with_reducible refine gate_dst (N := 5) rfl ?_); (try (refine gate_guard (by rfl) ?_; dsimp only)); refine bx_ 5 #[.int .i64 0, .int .i64 0, .int .i64 0, .slice none 0 0, .slice none 0 0] 30 ?_; intro gb288 hg w16 hbox hb; have BK288 := Aside0.mk hbox; have GW288 := gs_ hg; have GE288 := gs_ hg; have NB285_288 := nl_ hg BK285.out; have NB288_285 := ng_ hg BK285.out; replace BK285 := bb_ BK285.out hb; replace HB := hs_ hb; clear hb hbox hg; have hnb17 := NB285_288.out; have hnc17 := NB288_285.out; obtain ⟨hcz18_0, hcz18_1, hfz18_0, hfz18_1⟩ := c2_ BK285.out) | ((with_reducible refine gate_dst (N := 33) rfl ?_); (try (refine gate_guard (by rfl) ?_; dsimp only)); refine Kd.R_make (Kd.int .i64) _ 3 rfl (N := 33) rfl 28 _ _ rfl (l0_1.length : Int) rfl rfl Try.underlying28 (.int .i64 0) 8 info3 rfl (by decide) (by omega) 0 (ok := fun _ => True) (okp := fun _ => True) rfl (fun _ hk => hk) trivial (od_) (Nat.le_trans (Nat.mul_le_mul_right _ (od_ : (l0_1.length : Int).toNat ≤ 35184372088832)) (by omega)) (Below.refl _ _) (Nat.le_refl _) ?_; intro v290 w19 ho20 hb hg_ hnew_; clear hg_ hnew_; (first | rw [← Ny289.out] at ho20 | (simp only [Int.reduceToNat] at ho20; rw [← Ny289.out] at ho20)); have HO291 := rl0_ ho20; replace BK285 := bb_ BK285.out hb; replace BK288 := bb_ BK288.out hb; replace HB := hs_ hb; clear hb ho20))
      go_loopg [6, 7, 8, 36] kj2 (fun kq v6 v7 v8 v36 w' => ∃ (x6_2 : Int) (x7_2 : Int) (x8_2 : Int) (x9_2 : List Int) (x36_2 : Int) (x289000_2 : Int) (x289001_2 : Int) (x289002_2 : Int) (x289003_2 : List Int) (x289004_2 : List Int) (u289003 : Value) (u289004 : Value), v6 = .int .i64 x6_2 ∧ v7 = .int .i64 x7_2 ∧ v8 = .int .i64 x8_2 ∧ v36 = .int .i64 x36_2 ∧ Aside0 (paymasterlaw14_WithholdYear.l0 kq l1 x6_2 x7_2 x8_2 x9_2 l1 (l1.length : Int) x36_2 l0_0 l0_1 x289000_2 x289001_2 x289002_2 x289003_2 x289004_2 = some r) ∧ Aside0 (kq ≤ kj2) ∧ Aside0 (Kd.R (Kd.int .i64) 3 w' w.heap.size (fun k_ => some k_ ≠ (u289003 : Value).ownBlock ∧ some k_ ≠ (u289004 : Value).ownBlock) v290 x9_2) ∧ Aside0 (Kd.R (Kd.int .i64) 3 w' w.heap.size (fun k_ => some k_ ≠ (v290 : Value).ownBlock ∧ some k_ ≠ (u289004 : Value).ownBlock) u289003 x289003_2) ∧ Aside0 (Kd.R (Kd.int .i64) 3 w' w.heap.size (fun k_ => some k_ ≠ (v290 : Value).ownBlock ∧ some k_ ≠ (u289003 : Value).ownBlock) u289004 x289004_2) ∧ Aside0 (w'.heap[gb285]? = some (.cells #[(.slice A0_0 l0_0.length c0_0), (.slice A0_1 l0_1.length c0_1)] 25 (0, 0))) ∧ Aside0 (w'.heap[gb288]? = some (.cells #[.int .i64 x289000_2, .int .i64 x289001_2, .int .i64 x289002_2, u289003, u289004] 30 (0, 0))) ∧ Aside0 (Below w.heap.size w w'))
      case atStart => exact ⟨(0), (0), (0), (y289), (0), (0), (0), (0), (([] : List Int)), (([] : List Int)), (.slice none 0 0), (.slice none 0 0), sm_, sm_, sm_, sm_, H', ⟨Nat.le_refl _⟩, ⟨rs_ HO291.out⟩, ⟨kn_⟩, ⟨kn_⟩, ⟨bq_ BK285.out⟩, ⟨bq_ BK288.out⟩, ⟨bl_⟩⟩
      case round =>
       clear H'
       try clear c1; try clear c11; try clear c14; try clear c14b0; try clear c14b1; try clear c15; try clear c15b0; try clear c15b1; try clear hcz18_0; try clear hcz18_1; try clear hfz18_0; try clear hfz18_1
       obtain ⟨x6_2, x7_2, x8_2, x9_2, x36_2, x289000_2, x289001_2, x289002_2, x289003_2, x289004_2, u289003, u289004, rfl, rfl, rfl, rfl, HA, HK2, HO_9, HO_289003, HO_289004, BK285, BK288, HB⟩ := hrel
       cases gk with
       | zero => exact absurd HA.out (by simp [paymasterlaw14_WithholdYear.l0])
       | succ k2 =>
        have H := HA.out
        clear HA
        simp only [paymasterlaw14_WithholdYear.l0] at H
        by_cases c21 : x36_2 < (l1.length : Int)
        ·rw [if_pos c21] at H
         have c21b0 : decide (x36_2 < (l1.length : Int)) = true := decide_eq_true c21
         clear c21
         by_cases c22 : 0 ≤ x36_2
         ·rw [if_pos c22] at H
          have c22b0 : decide (0 ≤ x36_2) = true := decide_eq_true c22
          clear c22
          by_cases c23 : x36_2 < (l1.length : Int)
          ·rw [if_pos c23] at H
           have c23b0 : decide (x36_2 < (l1.length : Int)) = true := decide_eq_true c23
           clear c23
           replace H := Option.bind_eq_some_iff.mp H
           obtain ⟨⟨t294, t295, t296, t297, t300, t303, t304, t305, t306, t309, t312⟩, A240, H⟩ := H
           (try dsimp only at H)
           have A24 := Aside0.mk A240
           clear A240
           by_cases c25 : t312 = 0
           ·rw [if_pos c25] at H
            have c25b0 : (t312 == 0) = true := beq_iff_eq.mpr c25
            have c25b1 : (t312 != 0) = false := bne_eq_false_iff_eq.mpr c25
            clear c25
            have HC26 := Aside0.mk H
            clear H
            have p292 : 0 ≤ (x36_2 : Int) := od_
            have q292 : x36_2 < (l1.length : Int) := od_
            obtain ⟨ad292, e292, hx292_0, hx292_1⟩ := at_T58 HR1.out x36_2 p292 q292
            cases e292
            replace hx292_0 := (HB.out.cell (World.block_lt_of_cell? w _ hx292_0)).trans hx292_0
            replace hx292_1 := (HB.out.cell (World.block_lt_of_cell? w _ hx292_1)).trans hx292_1
            replace p292 := eq_true p292
            replace q292 := eq_true q292
            try go_wp2_with (first | ((with_reducible refine gate_dst (N := 11) rfl ?_); (try (refine gate_guard (by rfl) ?_; dsimp only)); refine bx_ 11 #[.int .i64 0, .int .i64 0] 54 ?_; intro gb293 hg w27 hbox hb; have BK293 := Aside0.mk hbox; have GW293 := gs_ hg; have GE293 := gs_ hg; have NB285_293 := nl_ hg BK285.out; have NB293_285 := ng_ hg BK285.out; have NB288_293 := nl_ hg BK288.out; have NB293_288 := ng_ hg BK288.out; replace HO_9 := rl_ HO_9.out hb; replace HO_289003 := rl_ HO_289003.out hb; replace HO_289004 := rl_ HO_289004.out hb; replace BK285 := bb_ BK285.out hb; replace BK288 := bb_ BK288.out hb; replace HB := hs_ hb; clear hb hbox hg; have hnb28 := NB293_285.out; have hnc28 := NB285_293.out; have hnb29 := NB293_288.out; have hnc29 := NB288_293.out; obtain ⟨hcz30_0, hcz30_1, hfz30_0, hfz30_1⟩ := c2_ BK293.out))
            have n0_ : Aside0 (Kd.R (Kd.int .i64) 3 ((w27.setCell ⟨gb293, 0, none⟩ (.int .i64 ((rd_T58 l1 x36_2).f0))).setCell ⟨gb293, 1, none⟩ (.int .i64 ((rd_T58 l1 x36_2).f1))) w.heap.size (fun k_ => some k_ ≠ (u289003 : Value).ownBlock ∧ some k_ ≠ (u289004 : Value).ownBlock) v290 x9_2) := ⟨rs_ (ty_ HO_9.out BK293.out)⟩
            have n1_ : Aside0 (Kd.R (Kd.int .i64) 3 ((w27.setCell ⟨gb293, 0, none⟩ (.int .i64 ((rd_T58 l1 x36_2).f0))).setCell ⟨gb293, 1, none⟩ (.int .i64 ((rd_T58 l1 x36_2).f1))) w.heap.size (fun k_ => some k_ ≠ (v290 : Value).ownBlock ∧ some k_ ≠ (u289004 : Value).ownBlock) u289003 x289003_2) := ⟨rs_ (ty_ HO_289003.out BK293.out)⟩
            have n2_ : Aside0 (Kd.R (Kd.int .i64) 3 ((w27.setCell ⟨gb293, 0, none⟩ (.int .i64 ((rd_T58 l1 x36_2).f0))).setCell ⟨gb293, 1, none⟩ (.int .i64 ((rd_T58 l1 x36_2).f1))) w.heap.size (fun k_ => some k_ ≠ (v290 : Value).ownBlock ∧ some k_ ≠ (u289003 : Value).ownBlock) u289004 x289004_2) := ⟨rs_ (ty_ HO_289004.out BK293.out)⟩
            have n3_ : Aside0 (((w27.setCell ⟨gb293, 0, none⟩ (.int .i64 ((rd_T58 l1 x36_2).f0))).setCell ⟨gb293, 1, none⟩ (.int .i64 ((rd_T58 l1 x36_2).f1))).heap[gb285]? = some (.cells #[.slice A0_0 l0_0.length c0_0, .slice A0_1 l0_1.length c0_1] 25 (0, 0))) := ⟨bf_ BK285.out⟩
            have n4_ : Aside0 (((w27.setCell ⟨gb293, 0, none⟩ (.int .i64 ((rd_T58 l1 x36_2).f0))).setCell ⟨gb293, 1, none⟩ (.int .i64 ((rd_T58 l1 x36_2).f1))).heap[gb288]? = some (.cells #[.int .i64 x289000_2, .int .i64 x289001_2, .int .i64 x289002_2, u289003, u289004] 30 (0, 0))) := ⟨bf_ BK288.out⟩
            have n5_ : Aside0 (((w27.setCell ⟨gb293, 0, none⟩ (.int .i64 ((rd_T58 l1 x36_2).f0))).setCell ⟨gb293, 1, none⟩ (.int .i64 ((rd_T58 l1 x36_2).f1))).heap[gb293]? = some (.cells #[.int .i64 ((rd_T58 l1 x36_2).f0), .int .i64 ((rd_T58 l1 x36_2).f1)] 54 (0, 0))) := ⟨bp_ BK293.out⟩
            have n6_ : Aside0 (Below w.heap.size w ((w27.setCell ⟨gb293, 0, none⟩ (.int .i64 ((rd_T58 l1 x36_2).f0))).setCell ⟨gb293, 1, none⟩ (.int .i64 ((rd_T58 l1 x36_2).f1)))) := ⟨bl_⟩
            (try clear HO_9)
            (try clear HO_289003)
            (try clear HO_289004)
            (try clear BK285)
            (try clear BK288)
            (try clear BK293)
            (try clear HB)
            generalize ((w27.setCell ⟨gb293, 0, none⟩ (.int .i64 ((rd_T58 l1 x36_2).f0))).setCell ⟨gb293, 1, none⟩ (.int .i64 ((rd_T58 l1 x36_2).f1))) = w31 at n0_ n1_ n2_ n3_ n4_ n5_ n6_ ⊢
            have HO_9 := n0_
            have HO_289003 := n1_
            have HO_289004 := n2_
            have BK285 := n3_
            have BK288 := n4_
            have BK293 := n5_
            have HB := n6_
            clear n0_ n1_ n2_ n3_ n4_ n5_ n6_
            replace HO_9 := Aside0.mk (Kd.R_drew HO_9.out)
            replace HO_289003 := Aside0.mk (Kd.R_drew HO_289003.out)
            replace HO_289004 := Aside0.mk (Kd.R_drew HO_289004.out)
            replace BK285 := Aside0.mk (blk_drew BK285.out)
            replace BK288 := Aside0.mk (blk_drew BK288.out)
            replace BK293 := Aside0.mk (blk_drew BK293.out)
            replace HB := Aside0.mk (below_drew1 HB.out)
            refine start_ (n := 8) (S := fun w' => w'.cell? ⟨gb293, 0, none⟩ = some (.int .i64 ((rd_T58 l1 x36_2).f0)) ∧ w'.cell? ⟨gb293, 1, none⟩ = some (.int .i64 ((rd_T58 l1 x36_2).f1))) (ds := []) #[false, false, false, false, false, false, false, false] (by kernel_rfl) rfl rfl ⟨(blk_cell BK293.out 0).trans rfl, (blk_cell BK293.out 1).trans rfl⟩ (fun hHeld => ?_); refine with_tabW paymasterlaw14_WithholdYear.tab9 paymasterlaw14_WithholdYear.bits9 (fun HT_ HW_ => ?_)
            generalize w31.drew = w32 at HO_9 HO_289003 HO_289004 BK285 BK288 BK293 HB hHeld ⊢
            refine pure_ (i := 0) (N := some 40) (v := ?_) (a' := ?_) #[true, false, false, false, false, false, false, false] rfl rfl (any_of HT_.out (by kernel_rfl)) (fun _ _ _ h => h) (Or.inl ⟨by rfl, ?_⟩) ?_ ?_
            rotate_left
            ·intro w'
             go_simp
             with_reducible rfl
            rotate_left
            ·simp only [Act.put, List.setIfInBounds_toArray, List.set_cons_zero, List.set_cons_succ, i64_w, i32_w]
             rfl
            refine pure_ (i := 3) (N := some 43) (v := ?_) (a' := ?_) #[true, false, false, true, false, false, false, false] rfl rfl (any_of HT_.out (by kernel_rfl)) (fun _ _ _ h => h) (Or.inl ⟨by rfl, ?_⟩) ?_ ?_
            rotate_left
            ·intro w'
             go_simp
             with_reducible rfl
            rotate_left
            ·simp only [Act.put, List.setIfInBounds_toArray, List.set_cons_zero, List.set_cons_succ, i64_w, i32_w]
             rfl
            refine take_ (i := 1) (N := some 41) (v := ?_) (a' := ?_) #[true, true, false, true, false, false, false, false] rfl rfl (take_ofW HT_.out HW_.out (by kernel_rfl)) (fun _ _ _ h => h) (Or.inl ⟨by rfl, ?_⟩) hHeld ?_ ?_
            rotate_left
            ·rintro w' ⟨s0, s1⟩
             go_simp
             with_reducible rfl
            rotate_left
            ·simp only [Act.put, List.setIfInBounds_toArray, List.set_cons_zero, List.set_cons_succ, i64_w, i32_w]
             rfl
            refine pure_ (i := 2) (N := some 42) (v := ?_) (a' := ?_) #[true, true, true, true, false, false, false, false] rfl rfl (any_of HT_.out (by kernel_rfl)) (fun _ _ _ h => h) (Or.inl ⟨by rfl, ?_⟩) ?_ ?_
            rotate_left
            ·intro w'
             go_simp
             with_reducible rfl
            rotate_left
            ·simp only [Act.put, List.setIfInBounds_toArray, List.set_cons_zero, List.set_cons_succ, i64_w, i32_w]
             rfl
            refine pure_ (i := 6) (N := some 12) (v := ?_) (a' := ?_) #[true, true, true, true, false, false, true, false] rfl rfl (any_of HT_.out (by kernel_rfl)) (fun _ _ _ h => h) (Or.inl ⟨by rfl, ?_⟩) ?_ ?_
            rotate_left
            ·intro w'
             go_simp
             with_reducible rfl
            rotate_left
            ·simp only [Act.put, List.setIfInBounds_toArray, List.set_cons_zero, List.set_cons_succ, i64_w, i32_w]
             rfl
            refine take_ (i := 4) (N := some 44) (v := ?_) (a' := ?_) #[true, true, true, true, true, false, true, false] rfl rfl (take_ofW HT_.out HW_.out (by kernel_rfl)) (fun _ _ _ h => h) (Or.inl ⟨by rfl, ?_⟩) hHeld ?_ ?_
            rotate_left
            ·rintro w' ⟨s0, s1⟩
             go_simp
             with_reducible rfl
            rotate_left
            ·simp only [Act.put, List.setIfInBounds_toArray, List.set_cons_zero, List.set_cons_succ, i64_w, i32_w]
             rfl
            refine pure_ (i := 5) (N := some 45) (v := ?_) (a' := ?_) #[true, true, true, true, true, true, true, false] rfl rfl (any_of HT_.out (by kernel_rfl)) (fun _ _ _ h => h) (Or.inl ⟨by rfl, ?_⟩) ?_ ?_
            rotate_left
            ·intro w'
             go_simp
             with_reducible rfl
            rotate_left
            ·simp only [Act.put, List.setIfInBounds_toArray, List.set_cons_zero, List.set_cons_succ, i64_w, i32_w]
             rfl
            refine pure_ (i := 7) (N := some 13) (v := ?_) (a' := ?_) #[true, true, true, true, true, true, true, true] rfl rfl (any_of HT_.out (by kernel_rfl)) (fun _ _ _ h => h) (Or.inl ⟨by rfl, ?_⟩) ?_ ?_
            rotate_left
            ·intro w'
             go_simp
             with_reducible rfl
            rotate_left
            ·simp only [Act.put, List.setIfInBounds_toArray, List.set_cons_zero, List.set_cons_succ, i64_w, i32_w]
             rfl
            refine done_ (done_of HT_.out (by kernel_rfl)) ?_
            have hnb33 := NB285_288.out
            have hnc33 := NB288_285.out
            obtain ⟨hcz34_0, hcz34_1, hfz34_0, hfz34_1⟩ := c2_ BK285.out
            obtain ⟨hcz35_0, hcz35_1, hcz35_2, hcz35_3, hcz35_4, hfz35_0, hfz35_1, hfz35_2, hfz35_3, hfz35_4⟩ := c5_ BK288.out
            obtain ⟨Ao36, co36, eo36⟩ := Kd.R_slice HO_289003.out
            subst eo36
            obtain ⟨Ao37, co37, eo37⟩ := Kd.R_slice HO_289004.out
            subst eo37
            try go_wp2_with (first | ((with_reducible refine gate_callee (f := 11) rfl ?_); refine goesL_ (some 51) rfl rfl Try.func11 (by kernel_rfl) rfl #[.agg #[.slice A0_0 l0_0.length c0_0, .slice A0_1 l0_1.length c0_1], .agg #[.int .i64 x289000_2, .int .i64 x289001_2, .int .i64 x289002_2, .slice Ao36 x289003_2.length co36, .slice Ao37 x289004_2.length co37], .int .i64 (Int.tmod ((rd_T58 l1 x36_2).f0) 1099511627776), .int .i64 (Int.tmod ((rd_T58 l1 x36_2).f1) 1099511627776)] rfl ga_ ?_; (with_reducible refine (withhold_Step.calls k2 _ _ l0_0 _ _ l0_1 x289000_2 x289001_2 x289002_2 _ _ x289003_2 _ _ x289004_2 (Int.tmod ((rd_T58 l1 x36_2).f0) 1099511627776) (Int.tmod ((rd_T58 l1 x36_2).f1) 1099511627776) t294 t295 t296 t297 t300 t303 t304 t305 t306 t309 t312 _ ?side1 ?side2 ?side3 ?side4 ?side5 ?side6 ?side7 ?side8 A24.out).mono ?_); (case side1 => exact kc_ (Kd.C_below HR0_0.out HB.out)); (case side2 => exact HC0_0.out); (case side3 => exact kc_ (Kd.C_below HR0_1.out HB.out)); (case side4 => exact HC0_1.out); (case side5 => exact kc_ (Kd.R_reads' HO_289003.out).2.2); (case side6 => exact (Kd.R_reads' HO_289003.out).2.1); (case side7 => exact kc_ (Kd.R_reads' HO_289004.out).2.2); (case side8 => exact (Kd.R_reads' HO_289004.out).2.1); rintro e w38 ⟨v298, v301, v307, v310, rfl, ho0, ho1, ho2, ho3, hb⟩; refine ⟨_, rfl, ?_⟩; have HO299 := rl0_ (rn_ (rn_ (rn_ ho0 HO_9.out) HO_289003.out) HO_289004.out); have HO302 := rl0_ (rn_ (rn_ (rn_ ho1 HO_9.out) HO_289003.out) HO_289004.out); have HO308 := rl0_ (rn_ (rn_ (rn_ ho2 HO_9.out) HO_289003.out) HO_289004.out); have HO311 := rl0_ (rn_ (rn_ (rn_ ho3 HO_9.out) HO_289003.out) HO_289004.out); replace HO_9 := ro4_ HO_9.out hb ho0 ho1 ho2 ho3; replace HO_289003 := ro4_ HO_289003.out hb ho0 ho1 ho2 ho3; replace HO_289004 := ro4_ HO_289004.out hb ho0 ho1 ho2 ho3; replace BK285 := bb_ BK285.out hb; replace BK288 := bb_ BK288.out hb; replace BK293 := bb_ BK293.out hb; replace HB := hs_ hb; (try clear hb); (try clear hb2); (try clear hk); (try clear hi); (try clear ho0); (try clear ho1); (try clear ho2); (try clear ho3)) | ((with_reducible refine gate_dst (N := 14) rfl ?_); (try (refine gate_guard (by rfl) ?_; dsimp only)); refine bx_ 14 #[.int .i64 0, .int .i64 0, .int .i64 0, .slice none 0 0, .slice none 0 0] 30 ?_; intro gb313 hg w39 hbox hb; have BK313 := Aside0.mk hbox; have GW313 := gs_ hg; have GE313 := gs_ hg; have NB285_313 := nl_ hg BK285.out; have NB313_285 := ng_ hg BK285.out; have NB288_313 := nl_ hg BK288.out; have NB313_288 := ng_ hg BK288.out; have NB293_313 := nl_ hg BK293.out; have NB313_293 := ng_ hg BK293.out; replace HO_9 := rl_ HO_9.out hb; replace HO_289003 := rl_ HO_289003.out hb; replace HO_289004 := rl_ HO_289004.out hb; replace HO299 := rl_ HO299.out hb; replace HO302 := rl_ HO302.out hb; replace HO308 := rl_ HO308.out hb; replace HO311 := rl_ HO311.out hb; replace BK285 := bb_ BK285.out hb; replace BK288 := bb_ BK288.out hb; replace BK293 := bb_ BK293.out hb; replace HB := hs_ hb; clear hb hbox hg) | ((with_reducible refine gate_dst (N := 15) rfl ?_); (try (refine gate_guard (by rfl) ?_; dsimp only)); refine bx_ 15 #[.int .i64 0, .int .i64 0, .int .i64 0, .slice none 0 0, .slice none 0 0] 30 ?_; intro gb314 hg w40 hbox hb; have BK314 := Aside0.mk hbox; have GW314 := gs_ hg; have GE314 := gs_ hg; have NB285_314 := nl_ hg BK285.out; have NB314_285 := ng_ hg BK285.out; have NB288_314 := nl_ hg BK288.out; have NB314_288 := ng_ hg BK288.out; have NB293_314 := nl_ hg BK293.out; have NB314_293 := ng_ hg BK293.out; have NB313_314 := nl_ hg BK313.out; have NB314_313 := ng_ hg BK313.out; replace HO_9 := rl_ HO_9.out hb; replace HO_289003 := rl_ HO_289003.out hb; replace HO_289004 := rl_ HO_289004.out hb; replace HO299 := rl_ HO299.out hb; replace HO302 := rl_ HO302.out hb; replace HO308 := rl_ HO308.out hb; replace HO311 := rl_ HO311.out hb; replace BK285 := bb_ BK285.out hb; replace BK288 := bb_ BK288.out hb; replace BK293 := bb_ BK293.out hb; replace BK313 := bb_ BK313.out hb; replace HB := hs_ hb; clear hb hbox hg; have hnb41 := NB313_285.out; have hnc41 := NB285_313.out; have hnb42 := NB313_288.out; have hnc42 := NB288_313.out; have hnb43 := NB313_293.out; have hnc43 := NB293_313.out; have hnb44 := NB313_314.out; have hnc44 := NB314_313.out; obtain ⟨hcz45_0, hcz45_1, hcz45_2, hcz45_3, hcz45_4, hfz45_0, hfz45_1, hfz45_2, hfz45_3, hfz45_4⟩ := c5_ BK313.out; obtain ⟨Ao46, co46, eo46⟩ := Kd.R_slice HO299.out; subst eo46; obtain ⟨Ao47, co47, eo47⟩ := Kd.R_slice HO302.out; subst eo47; have hnb48 := NB314_285.out; have hnc48 := NB285_314.out; have hnb49 := NB314_288.out; have hnc49 := NB288_314.out; have hnb50 := NB314_293.out; have hnc50 := NB293_314.out; obtain ⟨hcz51_0, hcz51_1, hcz51_2, hcz51_3, hcz51_4, hfz51_0, hfz51_1, hfz51_2, hfz51_3, hfz51_4⟩ := c5_ BK314.out; obtain ⟨Ao52, co52, eo52⟩ := Kd.R_slice HO308.out; subst eo52; obtain ⟨Ao53, co53, eo53⟩ := Kd.R_slice HO311.out; subst eo53))
            have n0_ : Aside0 (Kd.R (Kd.int .i64) 3 ((((((((((w40.setCell ⟨gb313, 0, none⟩ (.int .i64 t294)).setCell ⟨gb313, 1, none⟩ (.int .i64 t295)).setCell ⟨gb313, 2, none⟩ (.int .i64 t296)).setCell ⟨gb313, 3, none⟩ (.slice Ao46 t297.length co46)).setCell ⟨gb313, 4, none⟩ (.slice Ao47 t300.length co47)).setCell ⟨gb314, 0, none⟩ (.int .i64 t303)).setCell ⟨gb314, 1, none⟩ (.int .i64 t304)).setCell ⟨gb314, 2, none⟩ (.int .i64 t305)).setCell ⟨gb314, 3, none⟩ (.slice Ao52 t306.length co52)).setCell ⟨gb314, 4, none⟩ (.slice Ao53 t309.length co53)) w.heap.size (fun k_ => some k_ ≠ (.slice Ao36 x289003_2.length co36 : Value).ownBlock ∧ some k_ ≠ (.slice Ao37 x289004_2.length co37 : Value).ownBlock ∧ some k_ ≠ (.slice Ao46 t297.length co46 : Value).ownBlock ∧ some k_ ≠ (.slice Ao47 t300.length co47 : Value).ownBlock ∧ some k_ ≠ (.slice Ao52 t306.length co52 : Value).ownBlock ∧ some k_ ≠ (.slice Ao53 t309.length co53 : Value).ownBlock) v290 x9_2) := ⟨rs_ (ty_ (ty_ HO_9.out BK313.out) BK314.out)⟩
            have n1_ : Aside0 (Kd.R (Kd.int .i64) 3 ((((((((((w40.setCell ⟨gb313, 0, none⟩ (.int .i64 t294)).setCell ⟨gb313, 1, none⟩ (.int .i64 t295)).setCell ⟨gb313, 2, none⟩ (.int .i64 t296)).setCell ⟨gb313, 3, none⟩ (.slice Ao46 t297.length co46)).setCell ⟨gb313, 4, none⟩ (.slice Ao47 t300.length co47)).setCell ⟨gb314, 0, none⟩ (.int .i64 t303)).setCell ⟨gb314, 1, none⟩ (.int .i64 t304)).setCell ⟨gb314, 2, none⟩ (.int .i64 t305)).setCell ⟨gb314, 3, none⟩ (.slice Ao52 t306.length co52)).setCell ⟨gb314, 4, none⟩ (.slice Ao53 t309.length co53)) w.heap.size (fun k_ => some k_ ≠ (v290 : Value).ownBlock ∧ some k_ ≠ (.slice Ao37 x289004_2.length co37 : Value).ownBlock ∧ some k_ ≠ (.slice Ao46 t297.length co46 : Value).ownBlock ∧ some k_ ≠ (.slice Ao47 t300.length co47 : Value).ownBlock ∧ some k_ ≠ (.slice Ao52 t306.length co52 : Value).ownBlock ∧ some k_ ≠ (.slice Ao53 t309.length co53 : Value).ownBlock) (.slice Ao36 x289003_2.length co36) x289003_2) := ⟨rs_ (ty_ (ty_ HO_289003.out BK313.out) BK314.out)⟩
            have n2_ : Aside0 (Kd.R (Kd.int .i64) 3 ((((((((((w40.setCell ⟨gb313, 0, none⟩ (.int .i64 t294)).setCell ⟨gb313, 1, none⟩ (.int .i64 t295)).setCell ⟨gb313, 2, none⟩ (.int .i64 t296)).setCell ⟨gb313, 3, none⟩ (.slice Ao46 t297.length co46)).setCell ⟨gb313, 4, none⟩ (.slice Ao47 t300.length co47)).setCell ⟨gb314, 0, none⟩ (.int .i64 t303)).setCell ⟨gb314, 1, none⟩ (.int .i64 t304)).setCell ⟨gb314, 2, none⟩ (.int .i64 t305)).setCell ⟨gb314, 3, none⟩ (.slice Ao52 t306.length co52)).setCell ⟨gb314, 4, none⟩ (.slice Ao53 t309.length co53)) w.heap.size (fun k_ => some k_ ≠ (v290 : Value).ownBlock ∧ some k_ ≠ (.slice Ao36 x289003_2.length co36 : Value).ownBlock ∧ some k_ ≠ (.slice Ao46 t297.length co46 : Value).ownBlock ∧ some k_ ≠ (.slice Ao47 t300.length co47 : Value).ownBlock ∧ some k_ ≠ (.slice Ao52 t306.length co52 : Value).ownBlock ∧ some k_ ≠ (.slice Ao53 t309.length co53 : Value).ownBlock) (.slice Ao37 x289004_2.length co37) x289004_2) := ⟨rs_ (ty_ (ty_ HO_289004.out BK313.out) BK314.out)⟩
            have n3_ : Aside0 (Kd.R (Kd.int .i64) 3 ((((((((((w40.setCell ⟨gb313, 0, none⟩ (.int .i64 t294)).setCell ⟨gb313, 1, none⟩ (.int .i64 t295)).setCell ⟨gb313, 2, none⟩ (.int .i64 t296)).setCell ⟨gb313, 3, none⟩ (.slice Ao46 t297.length co46)).setCell ⟨gb313, 4, none⟩ (.slice Ao47 t300.length co47)).setCell ⟨gb314, 0, none⟩ (.int .i64 t303)).setCell ⟨gb314, 1, none⟩ (.int .i64 t304)).setCell ⟨gb314, 2, none⟩ (.int .i64 t305)).setCell ⟨gb314, 3, none⟩ (.slice Ao52 t306.length co52)).setCell ⟨gb314, 4, none⟩ (.slice Ao53 t309.length co53)) w.heap.size (fun k_ => some k_ ≠ (v290 : Value).ownBlock ∧ some k_ ≠ (.slice Ao36 x289003_2.length co36 : Value).ownBlock ∧ some k_ ≠ (.slice Ao37 x289004_2.length co37 : Value).ownBlock ∧ some k_ ≠ (.slice Ao47 t300.length co47 : Value).ownBlock ∧ some k_ ≠ (.slice Ao52 t306.length co52 : Value).ownBlock ∧ some k_ ≠ (.slice Ao53 t309.length co53 : Value).ownBlock) (.slice Ao46 t297.length co46) t297) := ⟨rs_ (ty_ (ty_ HO299.out BK313.out) BK314.out)⟩
            have n4_ : Aside0 (Kd.R (Kd.int .i64) 3 ((((((((((w40.setCell ⟨gb313, 0, none⟩ (.int .i64 t294)).setCell ⟨gb313, 1, none⟩ (.int .i64 t295)).setCell ⟨gb313, 2, none⟩ (.int .i64 t296)).setCell ⟨gb313, 3, none⟩ (.slice Ao46 t297.length co46)).setCell ⟨gb313, 4, none⟩ (.slice Ao47 t300.length co47)).setCell ⟨gb314, 0, none⟩ (.int .i64 t303)).setCell ⟨gb314, 1, none⟩ (.int .i64 t304)).setCell ⟨gb314, 2, none⟩ (.int .i64 t305)).setCell ⟨gb314, 3, none⟩ (.slice Ao52 t306.length co52)).setCell ⟨gb314, 4, none⟩ (.slice Ao53 t309.length co53)) w.heap.size (fun k_ => some k_ ≠ (v290 : Value).ownBlock ∧ some k_ ≠ (.slice Ao36 x289003_2.length co36 : Value).ownBlock ∧ some k_ ≠ (.slice Ao37 x289004_2.length co37 : Value).ownBlock ∧ some k_ ≠ (.slice Ao46 t297.length co46 : Value).ownBlock ∧ some k_ ≠ (.slice Ao52 t306.length co52 : Value).ownBlock ∧ some k_ ≠ (.slice Ao53 t309.length co53 : Value).ownBlock) (.slice Ao47 t300.length co47) t300) := ⟨rs_ (ty_ (ty_ HO302.out BK313.out) BK314.out)⟩
            have n5_ : Aside0 (Kd.R (Kd.int .i64) 3 ((((((((((w40.setCell ⟨gb313, 0, none⟩ (.int .i64 t294)).setCell ⟨gb313, 1, none⟩ (.int .i64 t295)).setCell ⟨gb313, 2, none⟩ (.int .i64 t296)).setCell ⟨gb313, 3, none⟩ (.slice Ao46 t297.length co46)).setCell ⟨gb313, 4, none⟩ (.slice Ao47 t300.length co47)).setCell ⟨gb314, 0, none⟩ (.int .i64 t303)).setCell ⟨gb314, 1, none⟩ (.int .i64 t304)).setCell ⟨gb314, 2, none⟩ (.int .i64 t305)).setCell ⟨gb314, 3, none⟩ (.slice Ao52 t306.length co52)).setCell ⟨gb314, 4, none⟩ (.slice Ao53 t309.length co53)) w.heap.size (fun k_ => some k_ ≠ (v290 : Value).ownBlock ∧ some k_ ≠ (.slice Ao36 x289003_2.length co36 : Value).ownBlock ∧ some k_ ≠ (.slice Ao37 x289004_2.length co37 : Value).ownBlock ∧ some k_ ≠ (.slice Ao46 t297.length co46 : Value).ownBlock ∧ some k_ ≠ (.slice Ao47 t300.length co47 : Value).ownBlock ∧ some k_ ≠ (.slice Ao53 t309.length co53 : Value).ownBlock) (.slice Ao52 t306.length co52) t306) := ⟨rs_ (ty_ (ty_ HO308.out BK313.out) BK314.out)⟩
            have n6_ : Aside0 (Kd.R (Kd.int .i64) 3 ((((((((((w40.setCell ⟨gb313, 0, none⟩ (.int .i64 t294)).setCell ⟨gb313, 1, none⟩ (.int .i64 t295)).setCell ⟨gb313, 2, none⟩ (.int .i64 t296)).setCell ⟨gb313, 3, none⟩ (.slice Ao46 t297.length co46)).setCell ⟨gb313, 4, none⟩ (.slice Ao47 t300.length co47)).setCell ⟨gb314, 0, none⟩ (.int .i64 t303)).setCell ⟨gb314, 1, none⟩ (.int .i64 t304)).setCell ⟨gb314, 2, none⟩ (.int .i64 t305)).setCell ⟨gb314, 3, none⟩ (.slice Ao52 t306.length co52)).setCell ⟨gb314, 4, none⟩ (.slice Ao53 t309.length co53)) w.heap.size (fun k_ => some k_ ≠ (v290 : Value).ownBlock ∧ some k_ ≠ (.slice Ao36 x289003_2.length co36 : Value).ownBlock ∧ some k_ ≠ (.slice Ao37 x289004_2.length co37 : Value).ownBlock ∧ some k_ ≠ (.slice Ao46 t297.length co46 : Value).ownBlock ∧ some k_ ≠ (.slice Ao47 t300.length co47 : Value).ownBlock ∧ some k_ ≠ (.slice Ao52 t306.length co52 : Value).ownBlock) (.slice Ao53 t309.length co53) t309) := ⟨rs_ (ty_ (ty_ HO311.out BK313.out) BK314.out)⟩
            have n7_ : Aside0 (((((((((((w40.setCell ⟨gb313, 0, none⟩ (.int .i64 t294)).setCell ⟨gb313, 1, none⟩ (.int .i64 t295)).setCell ⟨gb313, 2, none⟩ (.int .i64 t296)).setCell ⟨gb313, 3, none⟩ (.slice Ao46 t297.length co46)).setCell ⟨gb313, 4, none⟩ (.slice Ao47 t300.length co47)).setCell ⟨gb314, 0, none⟩ (.int .i64 t303)).setCell ⟨gb314, 1, none⟩ (.int .i64 t304)).setCell ⟨gb314, 2, none⟩ (.int .i64 t305)).setCell ⟨gb314, 3, none⟩ (.slice Ao52 t306.length co52)).setCell ⟨gb314, 4, none⟩ (.slice Ao53 t309.length co53)).heap[gb285]? = some (.cells #[.slice A0_0 l0_0.length c0_0, .slice A0_1 l0_1.length c0_1] 25 (0, 0))) := ⟨bf_ BK285.out⟩
            have n8_ : Aside0 (((((((((((w40.setCell ⟨gb313, 0, none⟩ (.int .i64 t294)).setCell ⟨gb313, 1, none⟩ (.int .i64 t295)).setCell ⟨gb313, 2, none⟩ (.int .i64 t296)).setCell ⟨gb313, 3, none⟩ (.slice Ao46 t297.length co46)).setCell ⟨gb313, 4, none⟩ (.slice Ao47 t300.length co47)).setCell ⟨gb314, 0, none⟩ (.int .i64 t303)).setCell ⟨gb314, 1, none⟩ (.int .i64 t304)).setCell ⟨gb314, 2, none⟩ (.int .i64 t305)).setCell ⟨gb314, 3, none⟩ (.slice Ao52 t306.length co52)).setCell ⟨gb314, 4, none⟩ (.slice Ao53 t309.length co53)).heap[gb288]? = some (.cells #[.int .i64 x289000_2, .int .i64 x289001_2, .int .i64 x289002_2, .slice Ao36 x289003_2.length co36, .slice Ao37 x289004_2.length co37] 30 (0, 0))) := ⟨bf_ BK288.out⟩
            have n9_ : Aside0 (((((((((((w40.setCell ⟨gb313, 0, none⟩ (.int .i64 t294)).setCell ⟨gb313, 1, none⟩ (.int .i64 t295)).setCell ⟨gb313, 2, none⟩ (.int .i64 t296)).setCell ⟨gb313, 3, none⟩ (.slice Ao46 t297.length co46)).setCell ⟨gb313, 4, none⟩ (.slice Ao47 t300.length co47)).setCell ⟨gb314, 0, none⟩ (.int .i64 t303)).setCell ⟨gb314, 1, none⟩ (.int .i64 t304)).setCell ⟨gb314, 2, none⟩ (.int .i64 t305)).setCell ⟨gb314, 3, none⟩ (.slice Ao52 t306.length co52)).setCell ⟨gb314, 4, none⟩ (.slice Ao53 t309.length co53)).heap[gb293]? = some (.cells #[.int .i64 ((rd_T58 l1 x36_2).f0), .int .i64 ((rd_T58 l1 x36_2).f1)] 54 (0, 0))) := ⟨bf_ BK293.out⟩
            have n10_ : Aside0 (((((((((((w40.setCell ⟨gb313, 0, none⟩ (.int .i64 t294)).setCell ⟨gb313, 1, none⟩ (.int .i64 t295)).setCell ⟨gb313, 2, none⟩ (.int .i64 t296)).setCell ⟨gb313, 3, none⟩ (.slice Ao46 t297.length co46)).setCell ⟨gb313, 4, none⟩ (.slice Ao47 t300.length co47)).setCell ⟨gb314, 0, none⟩ (.int .i64 t303)).setCell ⟨gb314, 1, none⟩ (.int .i64 t304)).setCell ⟨gb314, 2, none⟩ (.int .i64 t305)).setCell ⟨gb314, 3, none⟩ (.slice Ao52 t306.length co52)).setCell ⟨gb314, 4, none⟩ (.slice Ao53 t309.length co53)).heap[gb313]? = some (.cells #[.int .i64 t294, .int .i64 t295, .int .i64 t296, .slice Ao46 t297.length co46, .slice Ao47 t300.length co47] 30 (0, 0))) := ⟨bp_ BK313.out⟩
            have n11_ : Aside0 (((((((((((w40.setCell ⟨gb313, 0, none⟩ (.int .i64 t294)).setCell ⟨gb313, 1, none⟩ (.int .i64 t295)).setCell ⟨gb313, 2, none⟩ (.int .i64 t296)).setCell ⟨gb313, 3, none⟩ (.slice Ao46 t297.length co46)).setCell ⟨gb313, 4, none⟩ (.slice Ao47 t300.length co47)).setCell ⟨gb314, 0, none⟩ (.int .i64 t303)).setCell ⟨gb314, 1, none⟩ (.int .i64 t304)).setCell ⟨gb314, 2, none⟩ (.int .i64 t305)).setCell ⟨gb314, 3, none⟩ (.slice Ao52 t306.length co52)).setCell ⟨gb314, 4, none⟩ (.slice Ao53 t309.length co53)).heap[gb314]? = some (.cells #[.int .i64 t303, .int .i64 t304, .int .i64 t305, .slice Ao52 t306.length co52, .slice Ao53 t309.length co53] 30 (0, 0))) := ⟨bp_ BK314.out⟩
            have n12_ : Aside0 (Below w.heap.size w ((((((((((w40.setCell ⟨gb313, 0, none⟩ (.int .i64 t294)).setCell ⟨gb313, 1, none⟩ (.int .i64 t295)).setCell ⟨gb313, 2, none⟩ (.int .i64 t296)).setCell ⟨gb313, 3, none⟩ (.slice Ao46 t297.length co46)).setCell ⟨gb313, 4, none⟩ (.slice Ao47 t300.length co47)).setCell ⟨gb314, 0, none⟩ (.int .i64 t303)).setCell ⟨gb314, 1, none⟩ (.int .i64 t304)).setCell ⟨gb314, 2, none⟩ (.int .i64 t305)).setCell ⟨gb314, 3, none⟩ (.slice Ao52 t306.length co52)).setCell ⟨gb314, 4, none⟩ (.slice Ao53 t309.length co53))) := ⟨bl_⟩
            (try clear HO_9)
            (try clear HO_289003)
            (try clear HO_289004)
            (try clear HO299)
            (try clear HO302)
            (try clear HO308)
            (try clear HO311)
            (try clear BK285)
            (try clear BK288)
            (try clear BK293)
            (try clear BK313)
            (try clear BK314)
            (try clear HB)
            generalize ((((((((((w40.setCell ⟨gb313, 0, none⟩ (.int .i64 t294)).setCell ⟨gb313, 1, none⟩ (.int .i64 t295)).setCell ⟨gb313, 2, none⟩ (.int .i64 t296)).setCell ⟨gb313, 3, none⟩ (.slice Ao46 t297.length co46)).setCell ⟨gb313, 4, none⟩ (.slice Ao47 t300.length co47)).setCell ⟨gb314, 0, none⟩ (.int .i64 t303)).setCell ⟨gb314, 1, none⟩ (.int .i64 t304)).setCell ⟨gb314, 2, none⟩ (.int .i64 t305)).setCell ⟨gb314, 3, none⟩ (.slice Ao52 t306.length co52)).setCell ⟨gb314, 4, none⟩ (.slice Ao53 t309.length co53)) = w54 at n0_ n1_ n2_ n3_ n4_ n5_ n6_ n7_ n8_ n9_ n10_ n11_ n12_ ⊢
            have HO_9 := n0_
            have HO_289003 := n1_
            have HO_289004 := n2_
            have HO299 := n3_
            have HO302 := n4_
            have HO308 := n5_
            have HO311 := n6_
            have BK285 := n7_
            have BK288 := n8_
            have BK293 := n9_
            have BK313 := n10_
            have BK314 := n11_
            have HB := n12_
            clear n0_ n1_ n2_ n3_ n4_ n5_ n6_ n7_ n8_ n9_ n10_ n11_ n12_
            replace HO_9 := Aside0.mk (Kd.R_drew HO_9.out)
            replace HO_289003 := Aside0.mk (Kd.R_drew HO_289003.out)
            replace HO_289004 := Aside0.mk (Kd.R_drew HO_289004.out)
            replace HO299 := Aside0.mk (Kd.R_drew HO299.out)
            replace HO302 := Aside0.mk (Kd.R_drew HO302.out)
            replace HO308 := Aside0.mk (Kd.R_drew HO308.out)
            replace HO311 := Aside0.mk (Kd.R_drew HO311.out)
            replace BK285 := Aside0.mk (blk_drew BK285.out)
            replace BK288 := Aside0.mk (blk_drew BK288.out)
            replace BK293 := Aside0.mk (blk_drew BK293.out)
            replace BK313 := Aside0.mk (blk_drew BK313.out)
            replace BK314 := Aside0.mk (blk_drew BK314.out)
            replace HB := Aside0.mk (below_drew1 HB.out)
            refine start_ (n := 13) (S := fun w' => w'.cell? ⟨gb314, 0, none⟩ = some (.int .i64 t303) ∧ w'.cell? ⟨gb314, 1, none⟩ = some (.int .i64 t304) ∧ w'.cell? ⟨gb314, 2, none⟩ = some (.int .i64 t305) ∧ w'.cell? ⟨gb314, 3, none⟩ = some (.slice Ao52 t306.length co52) ∧ w'.cell? ⟨gb314, 4, none⟩ = some (.slice Ao53 t309.length co53)) (ds := []) #[false, false, false, false, false, false, false, false, false, false, false, false, false] (by kernel_rfl) rfl rfl ⟨(blk_cell BK314.out 0).trans rfl, (blk_cell BK314.out 1).trans rfl, (blk_cell BK314.out 2).trans rfl, (blk_cell BK314.out 3).trans rfl, (blk_cell BK314.out 4).trans rfl⟩ (fun hHeld => ?_); refine with_tabW paymasterlaw14_WithholdYear.tab13 paymasterlaw14_WithholdYear.bits13 (fun HT_ HW_ => ?_)
            generalize w54.drew = w55 at HO_9 HO_289003 HO_289004 HO299 HO302 HO308 HO311 BK285 BK288 BK293 BK313 BK314 HB hHeld ⊢
            refine pure_ (i := 0) (N := some 67) (v := ?_) (a' := ?_) #[true, false, false, false, false, false, false, false, false, false, false, false, false] rfl rfl (any_of HT_.out (by kernel_rfl)) (fun _ _ _ h => h) (Or.inl ⟨by rfl, ?_⟩) ?_ ?_
            rotate_left
            ·intro w'
             go_simp
             with_reducible rfl
            rotate_left
            ·simp only [Act.put, List.setIfInBounds_toArray, List.set_cons_zero, List.set_cons_succ, i64_w, i32_w]
             rfl
            refine pure_ (i := 1) (N := some 68) (v := ?_) (a' := ?_) #[true, true, false, false, false, false, false, false, false, false, false, false, false] rfl rfl (any_of HT_.out (by kernel_rfl)) (fun _ _ _ h => h) (Or.inl ⟨by rfl, ?_⟩) ?_ ?_
            rotate_left
            ·intro w'
             go_simp
             with_reducible rfl
            rotate_left
            ·simp only [Act.put, List.setIfInBounds_toArray, List.set_cons_zero, List.set_cons_succ, i64_w, i32_w]
             rfl
            refine pure_ (i := 2) (N := some 69) (v := ?_) (a' := ?_) #[true, true, true, false, false, false, false, false, false, false, false, false, false] rfl rfl (any_of HT_.out (by kernel_rfl)) (fun _ _ _ h => h) (Or.inl ⟨by rfl, ?_⟩) ?_ ?_
            rotate_left
            ·intro w'
             go_simp
             with_reducible rfl
            rotate_left
            ·simp only [Act.put, List.setIfInBounds_toArray, List.set_cons_zero, List.set_cons_succ, i64_w, i32_w]
             rfl
            refine pure_ (i := 3) (N := some 70) (v := ?_) (a' := ?_) #[true, true, true, true, false, false, false, false, false, false, false, false, false] rfl rfl (any_of HT_.out (by kernel_rfl)) (fun _ _ _ h => h) (Or.inl ⟨by rfl, ?_⟩) ?_ ?_
            rotate_left
            ·intro w'
             go_simp
             with_reducible rfl
            rotate_left
            ·simp only [Act.put, List.setIfInBounds_toArray, List.set_cons_zero, List.set_cons_succ, i64_w, i32_w]
             rfl
            refine pure_ (i := 4) (N := some 71) (v := ?_) (a' := ?_) #[true, true, true, true, true, false, false, false, false, false, false, false, false] rfl rfl (any_of HT_.out (by kernel_rfl)) (fun _ _ _ h => h) (Or.inl ⟨by rfl, ?_⟩) ?_ ?_
            rotate_left
            ·intro w'
             go_simp
             with_reducible rfl
            rotate_left
            ·simp only [Act.put, List.setIfInBounds_toArray, List.set_cons_zero, List.set_cons_succ, i64_w, i32_w]
             rfl
            refine pure_ (i := 5) (N := some 72) (v := ?_) (a' := ?_) #[true, true, true, true, true, true, false, false, false, false, false, false, false] rfl rfl (any_of HT_.out (by kernel_rfl)) (fun _ _ _ h => h) (Or.inl ⟨by rfl, ?_⟩) ?_ ?_
            rotate_left
            ·intro w'
             go_simp
             with_reducible rfl
            rotate_left
            ·simp only [Act.put, List.setIfInBounds_toArray, List.set_cons_zero, List.set_cons_succ, i64_w, i32_w]
             rfl
            refine pure_ (i := 6) (N := some 73) (v := ?_) (a' := ?_) #[true, true, true, true, true, true, true, false, false, false, false, false, false] rfl rfl (any_of HT_.out (by kernel_rfl)) (fun _ _ _ h => h) (Or.inl ⟨by rfl, ?_⟩) ?_ ?_
            rotate_left
            ·intro w'
             go_simp
             with_reducible rfl
            rotate_left
            ·simp only [Act.put, List.setIfInBounds_toArray, List.set_cons_zero, List.set_cons_succ, i64_w, i32_w]
             rfl
            refine pure_ (i := 7) (N := some 74) (v := ?_) (a' := ?_) #[true, true, true, true, true, true, true, true, false, false, false, false, false] rfl rfl (any_of HT_.out (by kernel_rfl)) (fun _ _ _ h => h) (Or.inl ⟨by rfl, ?_⟩) ?_ ?_
            rotate_left
            ·intro w'
             go_simp
             with_reducible rfl
            rotate_left
            ·simp only [Act.put, List.setIfInBounds_toArray, List.set_cons_zero, List.set_cons_succ, i64_w, i32_w]
             rfl
            refine pure_ (i := 10) (N := some 6) (v := ?_) (a' := ?_) #[true, true, true, true, true, true, true, true, false, false, true, false, false] rfl rfl (any_of HT_.out (by kernel_rfl)) (fun _ _ _ h => h) (Or.inl ⟨by rfl, ?_⟩) ?_ ?_
            rotate_left
            ·intro w'
             go_simp
             with_reducible rfl
            rotate_left
            ·simp only [Act.put, List.setIfInBounds_toArray, List.set_cons_zero, List.set_cons_succ, i64_w, i32_w]
             rfl
            refine pure_ (i := 11) (N := some 7) (v := ?_) (a' := ?_) #[true, true, true, true, true, true, true, true, false, false, true, true, false] rfl rfl (any_of HT_.out (by kernel_rfl)) (fun _ _ _ h => h) (Or.inl ⟨by rfl, ?_⟩) ?_ ?_
            rotate_left
            ·intro w'
             go_simp
             with_reducible rfl
            rotate_left
            ·simp only [Act.put, List.setIfInBounds_toArray, List.set_cons_zero, List.set_cons_succ, i64_w, i32_w]
             rfl
            refine take_ (i := 8) (N := some 75) (v := ?_) (a' := ?_) #[true, true, true, true, true, true, true, true, true, false, true, true, false] rfl rfl (take_ofW HT_.out HW_.out (by kernel_rfl)) (fun _ _ _ h => h) (Or.inl ⟨by rfl, ?_⟩) hHeld ?_ ?_
            rotate_left
            ·rintro w' ⟨s0, s1, s2, s3, s4⟩
             go_simp
             with_reducible rfl
            rotate_left
            ·simp only [Act.put, List.setIfInBounds_toArray, List.set_cons_zero, List.set_cons_succ, i64_w, i32_w]
             rfl
            refine pure_ (i := 9) (N := some 76) (v := ?_) (a' := ?_) #[true, true, true, true, true, true, true, true, true, true, true, true, false] rfl rfl (any_of HT_.out (by kernel_rfl)) (fun _ _ _ h => h) (Or.inl ⟨by rfl, ?_⟩) ?_ ?_
            rotate_left
            ·intro w'
             go_simp
             with_reducible rfl
            rotate_left
            ·simp only [Act.put, List.setIfInBounds_toArray, List.set_cons_zero, List.set_cons_succ, i64_w, i32_w]
             rfl
            refine pure_ (i := 12) (N := some 8) (v := ?_) (a' := ?_) #[true, true, true, true, true, true, true, true, true, true, true, true, true] rfl rfl (any_of HT_.out (by kernel_rfl)) (fun _ _ _ h => h) (Or.inl ⟨by rfl, ?_⟩) ?_ ?_
            rotate_left
            ·intro w'
             go_simp
             with_reducible rfl
            rotate_left
            ·simp only [Act.put, List.setIfInBounds_toArray, List.set_cons_zero, List.set_cons_succ, i64_w, i32_w]
             rfl
            refine done_ (done_of HT_.out (by kernel_rfl)) ?_
            go_upto_region 14 with (fail)
            go_cut [92] (fun v92 wc => ∃ (kq : Nat) (x92_25 : Bool), v92 = .bool x92_25 ∧ Aside0 (paymasterlaw14_WithholdYear.j2 kq l1 (wrap64 (x6_2 + (Int.tmod ((rd_T58 l1 x36_2).f0) 1099511627776))) (wrap64 (x7_2 + (Int.tmod ((rd_T58 l1 x36_2).f1) 1099511627776))) (wrap64 (x8_2 + t305)) x9_2 l1 (l1.length : Int) x36_2 x92_25 l0_0 l0_1 t294 t295 t296 t297 t300 t303 t304 t305 t306 t309 = some r) ∧ Aside0 (kq ≤ k2) ∧ Aside0 (Kd.R (Kd.int .i64) 3 wc w.heap.size (fun k_ => some k_ ≠ ((.slice Ao36 x289003_2.length co36) : Value).ownBlock ∧ some k_ ≠ ((.slice Ao37 x289004_2.length co37) : Value).ownBlock ∧ some k_ ≠ ((.slice Ao46 t297.length co46) : Value).ownBlock ∧ some k_ ≠ ((.slice Ao47 t300.length co47) : Value).ownBlock ∧ some k_ ≠ ((.slice Ao52 t306.length co52) : Value).ownBlock ∧ some k_ ≠ ((.slice Ao53 t309.length co53) : Value).ownBlock) v290 x9_2) ∧ Aside0 (Kd.R (Kd.int .i64) 3 wc w.heap.size (fun k_ => some k_ ≠ (v290 : Value).ownBlock ∧ some k_ ≠ ((.slice Ao37 x289004_2.length co37) : Value).ownBlock ∧ some k_ ≠ ((.slice Ao46 t297.length co46) : Value).ownBlock ∧ some k_ ≠ ((.slice Ao47 t300.length co47) : Value).ownBlock ∧ some k_ ≠ ((.slice Ao52 t306.length co52) : Value).ownBlock ∧ some k_ ≠ ((.slice Ao53 t309.length co53) : Value).ownBlock) (.slice Ao36 x289003_2.length co36) x289003_2) ∧ Aside0 (Kd.R (Kd.int .i64) 3 wc w.heap.size (fun k_ => some k_ ≠ (v290 : Value).ownBlock ∧ some k_ ≠ ((.slice Ao36 x289003_2.length co36) : Value).ownBlock ∧ some k_ ≠ ((.slice Ao46 t297.length co46) : Value).ownBlock ∧ some k_ ≠ ((.slice Ao47 t300.length co47) : Value).ownBlock ∧ some k_ ≠ ((.slice Ao52 t306.length co52) : Value).ownBlock ∧ some k_ ≠ ((.slice Ao53 t309.length co53) : Value).ownBlock) (.slice Ao37 x289004_2.length co37) x289004_2) ∧ Aside0 (Kd.R (Kd.int .i64) 3 wc w.heap.size (fun k_ => some k_ ≠ (v290 : Value).ownBlock ∧ some k_ ≠ ((.slice Ao36 x289003_2.length co36) : Value).ownBlock ∧ some k_ ≠ ((.slice Ao37 x289004_2.length co37) : Value).ownBlock ∧ some k_ ≠ ((.slice Ao47 t300.length co47) : Value).ownBlock ∧ some k_ ≠ ((.slice Ao52 t306.length co52) : Value).ownBlock ∧ some k_ ≠ ((.slice Ao53 t309.length co53) : Value).ownBlock) (.slice Ao46 t297.length co46) t297) ∧ Aside0 (Kd.R (Kd.int .i64) 3 wc w.heap.size (fun k_ => some k_ ≠ (v290 : Value).ownBlock ∧ some k_ ≠ ((.slice Ao36 x289003_2.length co36) : Value).ownBlock ∧ some k_ ≠ ((.slice Ao37 x289004_2.length co37) : Value).ownBlock ∧ some k_ ≠ ((.slice Ao46 t297.length co46) : Value).ownBlock ∧ some k_ ≠ ((.slice Ao52 t306.length co52) : Value).ownBlock ∧ some k_ ≠ ((.slice Ao53 t309.length co53) : Value).ownBlock) (.slice Ao47 t300.length co47) t300) ∧ Aside0 (Kd.R (Kd.int .i64) 3 wc w.heap.size (fun k_ => some k_ ≠ (v290 : Value).ownBlock ∧ some k_ ≠ ((.slice Ao36 x289003_2.length co36) : Value).ownBlock ∧ some k_ ≠ ((.slice Ao37 x289004_2.length co37) : Value).ownBlock ∧ some k_ ≠ ((.slice Ao46 t297.length co46) : Value).ownBlock ∧ some k_ ≠ ((.slice Ao47 t300.length co47) : Value).ownBlock ∧ some k_ ≠ ((.slice Ao53 t309.length co53) : Value).ownBlock) (.slice Ao52 t306.length co52) t306) ∧ Aside0 (Kd.R (Kd.int .i64) 3 wc w.heap.size (fun k_ => some k_ ≠ (v290 : Value).ownBlock ∧ some k_ ≠ ((.slice Ao36 x289003_2.length co36) : Value).ownBlock ∧ some k_ ≠ ((.slice Ao37 x289004_2.length co37) : Value).ownBlock ∧ some k_ ≠ ((.slice Ao46 t297.length co46) : Value).ownBlock ∧ some k_ ≠ ((.slice Ao47 t300.length co47) : Value).ownBlock ∧ some k_ ≠ ((.slice Ao52 t306.length co52) : Value).ownBlock) (.slice Ao53 t309.length co53) t309) ∧ Aside0 (wc.heap[gb285]? = some (.cells #[(.slice A0_0 l0_0.length c0_0), (.slice A0_1 l0_1.length c0_1)] 25 (0, 0))) ∧ Aside0 (wc.heap[gb288]? = some (.cells #[.int .i64 x289000_2, .int .i64 x289001_2, .int .i64 x289002_2, (.slice Ao36 x289003_2.length co36), (.slice Ao37 x289004_2.length co37)] 30 (0, 0))) ∧ Aside0 (wc.heap[gb293]? = some (.cells #[.int .i64 ((rd_T58 l1 x36_2).f0), .int .i64 ((rd_T58 l1 x36_2).f1)] 54 (0, 0))) ∧ Aside0 (wc.heap[gb313]? = some (.cells #[.int .i64 t294, .int .i64 t295, .int .i64 t296, (.slice Ao46 t297.length co46), (.slice Ao47 t300.length co47)] 30 (0, 0))) ∧ Aside0 (wc.heap[gb314]? = some (.cells #[.int .i64 t303, .int .i64 t304, .int .i64 t305, (.slice Ao52 t306.length co52), (.slice Ao53 t309.length co53)] 30 (0, 0))) ∧ Aside0 (Below w.heap.size w wc))
            case first =>
             have H := HC26.out
             clear HC26
             by_cases c56 : (t306.length : Int) = (x9_2.length : Int)
             ·rw [if_pos c56] at H
              have c56b0 : ((t306.length : Int) == (x9_2.length : Int)) = true := beq_iff_eq.mpr c56
              have c56b1 : ((t306.length : Int) != (x9_2.length : Int)) = false := bne_eq_false_iff_eq.mpr c56
              have c56b2 : (t306.length == x9_2.length) = true := by first | simpa using c56 | (simp at c56 ⊢; omega)
              clear c56
              (first | rw [c56b0] | (simp only [i64_w, i32_w]; rw [c56b0]) | skip)
              by_cases c57 : (wrap64 (x8_2 + t305)) < 0
              ·rw [if_pos c57] at H
               have c57b0 : decide ((wrap64 (x8_2 + t305)) < 0) = true := decide_eq_true c57
               clear c57
               have H' := Aside0.mk H
               clear H
               have hnb58 := NB314_285.out
               have hnc58 := NB285_314.out
               have hnb59 := NB314_288.out
               have hnc59 := NB288_314.out
               have hnb60 := NB314_293.out
               have hnc60 := NB293_314.out
               have hnb61 := NB314_313.out
               have hnc61 := NB313_314.out
               obtain ⟨hcz62_0, hcz62_1, hcz62_2, hcz62_3, hcz62_4, hfz62_0, hfz62_1, hfz62_2, hfz62_3, hfz62_4⟩ := c5_ BK314.out
               obtain ⟨Ao63, co63, eo63⟩ := Kd.R_slice HO_9.out
               subst eo63
               go_wp2
               go_meet
               case rel => exact ⟨_, (true), sm_, H', ⟨by have := HJ2.out; have := HK2.out; first | omega | exact Nat.le_refl _⟩, ⟨rs_ HO_9.out⟩, ⟨rs_ HO_289003.out⟩, ⟨rs_ HO_289004.out⟩, ⟨rs_ HO299.out⟩, ⟨rs_ HO302.out⟩, ⟨rs_ HO308.out⟩, ⟨rs_ HO311.out⟩, ⟨bq_ BK285.out⟩, ⟨bq_ BK288.out⟩, ⟨bq_ BK293.out⟩, ⟨bq_ BK313.out⟩, ⟨bq_ BK314.out⟩, ⟨bl_⟩⟩
              ·rw [if_neg c57] at H
               have c57b0 : decide ((wrap64 (x8_2 + t305)) < 0) = false := decide_eq_false c57
               clear c57
               obtain ⟨ji64, hji64⟩ : ∃ j_ : Int, (mx (wrap64 (x6_2 + (Int.tmod ((rd_T58 l1 x36_2).f0) 1099511627776))) 0) = j_ := ⟨_, rfl⟩
               replace H : (paymasterlaw14_WithholdYear.j2 k2 l1 (wrap64 (x6_2 + (Int.tmod ((rd_T58 l1 x36_2).f0) 1099511627776))) (wrap64 (x7_2 + (Int.tmod ((rd_T58 l1 x36_2).f1) 1099511627776))) (wrap64 (x8_2 + t305)) x9_2 l1 (l1.length : Int) x36_2 (decide ((wrap64 (x8_2 + t305)) > (ji64))) l0_0 l0_1 t294 t295 t296 t297 t300 t303 t304 t305 t306 t309) = some r := by first | (rw [hji64] at H; exact H) | (simp only [hji64] at H ⊢; exact H)
               have hji64_ : (if (wrap64 (x6_2 + (Int.tmod ((rd_T58 l1 x36_2).f0) 1099511627776))) < 0 then 0 else (wrap64 (x6_2 + (Int.tmod ((rd_T58 l1 x36_2).f0) 1099511627776)))) = ji64 := hji64
               have H' := Aside0.mk H
               clear H
               have hnb65 := NB314_285.out
               have hnc65 := NB285_314.out
               have hnb66 := NB314_288.out
               have hnc66 := NB288_314.out
               have hnb67 := NB314_293.out
               have hnc67 := NB293_314.out
               have hnb68 := NB314_313.out
               have hnc68 := NB313_314.out
               obtain ⟨hcz69_0, hcz69_1, hcz69_2, hcz69_3, hcz69_4, hfz69_0, hfz69_1, hfz69_2, hfz69_3, hfz69_4⟩ := c5_ BK314.out
               obtain ⟨Ao70, co70, eo70⟩ := Kd.R_slice HO_9.out
               subst eo70
               go_wp2
               go_meet
               case rel => exact ⟨_, (decide ((wrap64 (x8_2 + t305)) > (ji64))), (by first | rfl | (simp; done) | (simp only [← hji64] <;> (first | rfl | simp)) | (simp [*]; done)), H', ⟨by have := HJ2.out; have := HK2.out; first | omega | exact Nat.le_refl _⟩, ⟨rs_ HO_9.out⟩, ⟨rs_ HO_289003.out⟩, ⟨rs_ HO_289004.out⟩, ⟨rs_ HO299.out⟩, ⟨rs_ HO302.out⟩, ⟨rs_ HO308.out⟩, ⟨rs_ HO311.out⟩, ⟨bq_ BK285.out⟩, ⟨bq_ BK288.out⟩, ⟨bq_ BK293.out⟩, ⟨bq_ BK313.out⟩, ⟨bq_ BK314.out⟩, ⟨bl_⟩⟩
             ·rw [if_neg c56] at H
              have c56b0 : ((t306.length : Int) == (x9_2.length : Int)) = false := beq_eq_false_iff_ne.mpr c56
              have c56b1 : ((t306.length : Int) != (x9_2.length : Int)) = true := bne_iff_ne.mpr c56
              have c56b2 : (t306.length == x9_2.length) = false := by first | simpa using c56 | (simp at c56 ⊢; omega)
              (first | rw [c56b0] | (simp only [i64_w, i32_w]; rw [c56b0]) | skip)
              have H' := Aside0.mk H
              clear H
              have hnb71 := NB314_285.out
              have hnc71 := NB285_314.out
              have hnb72 := NB314_288.out
              have hnc72 := NB288_314.out
              have hnb73 := NB314_293.out
              have hnc73 := NB293_314.out
              have hnb74 := NB314_313.out
              have hnc74 := NB313_314.out
              obtain ⟨hcz75_0, hcz75_1, hcz75_2, hcz75_3, hcz75_4, hfz75_0, hfz75_1, hfz75_2, hfz75_3, hfz75_4⟩ := c5_ BK314.out
              obtain ⟨Ao76, co76, eo76⟩ := Kd.R_slice HO_9.out
              subst eo76
              go_wp2
              go_meet
              case rel => exact ⟨_, (true), sm_, H', ⟨by have := HJ2.out; have := HK2.out; first | omega | exact Nat.le_refl _⟩, ⟨rs_ HO_9.out⟩, ⟨rs_ HO_289003.out⟩, ⟨rs_ HO_289004.out⟩, ⟨rs_ HO299.out⟩, ⟨rs_ HO302.out⟩, ⟨rs_ HO308.out⟩, ⟨rs_ HO311.out⟩, ⟨bq_ BK285.out⟩, ⟨bq_ BK288.out⟩, ⟨bq_ BK293.out⟩, ⟨bq_ BK313.out⟩, ⟨bq_ BK314.out⟩, ⟨bl_⟩⟩
            case rest =>
             clear HC26
             try clear c1; try clear c11; try clear c14; try clear c14b0; try clear c14b1; try clear c15; try clear c15b0; try clear c15b1; try clear c21; try clear c21b0; try clear c22; try clear c22b0; try clear c23; try clear c23b0; try clear c25; try clear c25b0; try clear c25b1; try clear hcz18_0; try clear hcz18_1; try clear hcz30_0; try clear hcz30_1; try clear hcz34_0; try clear hcz34_1; try clear hcz35_0
             try clear hcz35_1; try clear hcz35_2; try clear hcz35_3; try clear hcz35_4; try clear hcz45_0; try clear hcz45_1; try clear hcz45_2; try clear hcz45_3; try clear hcz45_4; try clear hcz51_0; try clear hcz51_1; try clear hcz51_2; try clear hcz51_3; try clear hcz51_4; try clear hfz18_0; try clear hfz18_1; try clear hfz30_0; try clear hfz30_1; try clear hfz34_0; try clear hfz34_1; try clear hfz35_0
             try clear hfz35_1; try clear hfz35_2; try clear hfz35_3; try clear hfz35_4; try clear hfz45_0; try clear hfz45_1; try clear hfz45_2; try clear hfz45_3; try clear hfz45_4; try clear hfz51_0; try clear hfz51_1; try clear hfz51_2; try clear hfz51_3; try clear hfz51_4; try clear hx292_0; try clear hx292_1; try clear p292; try clear q292
             obtain ⟨kq, x92_25, rfl, HA, HJ25, HO_9, HO_289003, HO_289004, HO_314003, HO_314004, HO_315003, HO_315004, BK285, BK288, BK293, BK313, BK314, HB⟩ := hcut
             cases kq with
             | zero => exact absurd HA.out (by simp [paymasterlaw14_WithholdYear.j2])
             | succ kj25 =>
              have H := HA.out
              clear HA
              simp only [paymasterlaw14_WithholdYear.j2] at H
              by_cases c77 : x92_25 = true
              ·subst c77
               rw [if_pos rfl] at H
               exact absurd H (by simp)
              ·replace c77 := Bool.eq_false_iff.mpr c77
               subst c77
               rw [if_neg (show ¬ (false = true) by decide)] at H
               have H' := Aside0.mk H
               clear H
               obtain ⟨Ao78, co78, eo78⟩ := Kd.R_slice HO_9.out
               subst eo78
               go_wp2
               go_loopg [95] kj25 (fun kq v95 w' => ∃ (x9_4 : List Int) (x95_4 : Int), v95 = .int .i64 x95_4 ∧ Aside0 (paymasterlaw14_WithholdYear.l1 kq l1 (wrap64 (x6_2 + (Int.tmod ((rd_T58 l1 x36_2).f0) 1099511627776))) (wrap64 (x7_2 + (Int.tmod ((rd_T58 l1 x36_2).f1) 1099511627776))) (wrap64 (x8_2 + t305)) x9_4 l1 (l1.length : Int) x36_2 (x9_2.length : Int) x95_4 l0_0 l0_1 t294 t295 t296 t297 t300 t303 t304 t305 t306 t309 = some r) ∧ Aside0 (kq ≤ kj25) ∧ Aside0 (Kd.R (Kd.int .i64) 3 w' w.heap.size (fun k_ => some k_ ≠ ((.slice Ao36 x289003_2.length co36) : Value).ownBlock ∧ some k_ ≠ ((.slice Ao37 x289004_2.length co37) : Value).ownBlock ∧ some k_ ≠ ((.slice Ao46 t297.length co46) : Value).ownBlock ∧ some k_ ≠ ((.slice Ao47 t300.length co47) : Value).ownBlock ∧ some k_ ≠ ((.slice Ao52 t306.length co52) : Value).ownBlock ∧ some k_ ≠ ((.slice Ao53 t309.length co53) : Value).ownBlock) (.slice Ao78 x9_2.length co78) x9_4) ∧ Aside0 (Kd.R (Kd.int .i64) 3 w' w.heap.size (fun k_ => some k_ ≠ ((.slice Ao78 x9_2.length co78) : Value).ownBlock ∧ some k_ ≠ ((.slice Ao37 x289004_2.length co37) : Value).ownBlock ∧ some k_ ≠ ((.slice Ao46 t297.length co46) : Value).ownBlock ∧ some k_ ≠ ((.slice Ao47 t300.length co47) : Value).ownBlock ∧ some k_ ≠ ((.slice Ao52 t306.length co52) : Value).ownBlock ∧ some k_ ≠ ((.slice Ao53 t309.length co53) : Value).ownBlock) (.slice Ao36 x289003_2.length co36) x289003_2) ∧ Aside0 (Kd.R (Kd.int .i64) 3 w' w.heap.size (fun k_ => some k_ ≠ ((.slice Ao78 x9_2.length co78) : Value).ownBlock ∧ some k_ ≠ ((.slice Ao36 x289003_2.length co36) : Value).ownBlock ∧ some k_ ≠ ((.slice Ao46 t297.length co46) : Value).ownBlock ∧ some k_ ≠ ((.slice Ao47 t300.length co47) : Value).ownBlock ∧ some k_ ≠ ((.slice Ao52 t306.length co52) : Value).ownBlock ∧ some k_ ≠ ((.slice Ao53 t309.length co53) : Value).ownBlock) (.slice Ao37 x289004_2.length co37) x289004_2) ∧ Aside0 (Kd.R (Kd.int .i64) 3 w' w.heap.size (fun k_ => some k_ ≠ ((.slice Ao78 x9_2.length co78) : Value).ownBlock ∧ some k_ ≠ ((.slice Ao36 x289003_2.length co36) : Value).ownBlock ∧ some k_ ≠ ((.slice Ao37 x289004_2.length co37) : Value).ownBlock ∧ some k_ ≠ ((.slice Ao47 t300.length co47) : Value).ownBlock ∧ some k_ ≠ ((.slice Ao52 t306.length co52) : Value).ownBlock ∧ some k_ ≠ ((.slice Ao53 t309.length co53) : Value).ownBlock) (.slice Ao46 t297.length co46) t297) ∧ Aside0 (Kd.R (Kd.int .i64) 3 w' w.heap.size (fun k_ => some k_ ≠ ((.slice Ao78 x9_2.length co78) : Value).ownBlock ∧ some k_ ≠ ((.slice Ao36 x289003_2.length co36) : Value).ownBlock ∧ some k_ ≠ ((.slice Ao37 x289004_2.length co37) : Value).ownBlock ∧ some k_ ≠ ((.slice Ao46 t297.length co46) : Value).ownBlock ∧ some k_ ≠ ((.slice Ao52 t306.length co52) : Value).ownBlock ∧ some k_ ≠ ((.slice Ao53 t309.length co53) : Value).ownBlock) (.slice Ao47 t300.length co47) t300) ∧ Aside0 (Kd.R (Kd.int .i64) 3 w' w.heap.size (fun k_ => some k_ ≠ ((.slice Ao78 x9_2.length co78) : Value).ownBlock ∧ some k_ ≠ ((.slice Ao36 x289003_2.length co36) : Value).ownBlock ∧ some k_ ≠ ((.slice Ao37 x289004_2.length co37) : Value).ownBlock ∧ some k_ ≠ ((.slice Ao46 t297.length co46) : Value).ownBlock ∧ some k_ ≠ ((.slice Ao47 t300.length co47) : Value).ownBlock ∧ some k_ ≠ ((.slice Ao53 t309.length co53) : Value).ownBlock) (.slice Ao52 t306.length co52) t306) ∧ Aside0 (Kd.R (Kd.int .i64) 3 w' w.heap.size (fun k_ => some k_ ≠ ((.slice Ao78 x9_2.length co78) : Value).ownBlock ∧ some k_ ≠ ((.slice Ao36 x289003_2.length co36) : Value).ownBlock ∧ some k_ ≠ ((.slice Ao37 x289004_2.length co37) : Value).ownBlock ∧ some k_ ≠ ((.slice Ao46 t297.length co46) : Value).ownBlock ∧ some k_ ≠ ((.slice Ao47 t300.length co47) : Value).ownBlock ∧ some k_ ≠ ((.slice Ao52 t306.length co52) : Value).ownBlock) (.slice Ao53 t309.length co53) t309) ∧ Aside0 (w'.heap[gb285]? = some (.cells #[(.slice A0_0 l0_0.length c0_0), (.slice A0_1 l0_1.length c0_1)] 25 (0, 0))) ∧ Aside0 (w'.heap[gb288]? = some (.cells #[.int .i64 x289000_2, .int .i64 x289001_2, .int .i64 x289002_2, (.slice Ao36 x289003_2.length co36), (.slice Ao37 x289004_2.length co37)] 30 (0, 0))) ∧ Aside0 (w'.heap[gb293]? = some (.cells #[.int .i64 ((rd_T58 l1 x36_2).f0), .int .i64 ((rd_T58 l1 x36_2).f1)] 54 (0, 0))) ∧ Aside0 (w'.heap[gb313]? = some (.cells #[.int .i64 t294, .int .i64 t295, .int .i64 t296, (.slice Ao46 t297.length co46), (.slice Ao47 t300.length co47)] 30 (0, 0))) ∧ Aside0 (w'.heap[gb314]? = some (.cells #[.int .i64 t303, .int .i64 t304, .int .i64 t305, (.slice Ao52 t306.length co52), (.slice Ao53 t309.length co53)] 30 (0, 0))) ∧ Aside0 (Below w.heap.size w w'))
               case atStart => exact ⟨(x9_2), (0), sm_, H', ⟨Nat.le_refl _⟩, ⟨rs_ HO_9.out⟩, ⟨rs_ HO_289003.out⟩, ⟨rs_ HO_289004.out⟩, ⟨rs_ HO_314003.out⟩, ⟨rs_ HO_314004.out⟩, ⟨rs_ HO_315003.out⟩, ⟨rs_ HO_315004.out⟩, ⟨bq_ BK285.out⟩, ⟨bq_ BK288.out⟩, ⟨bq_ BK293.out⟩, ⟨bq_ BK313.out⟩, ⟨bq_ BK314.out⟩, ⟨bl_⟩⟩
               case round =>
                clear H'
                try clear c1; try clear c11; try clear c14; try clear c14b0; try clear c14b1; try clear c15; try clear c15b0; try clear c15b1; try clear c21; try clear c21b0; try clear c22; try clear c22b0; try clear c23; try clear c23b0; try clear c25; try clear c25b0; try clear c25b1; try clear c77; try clear hcz18_0; try clear hcz18_1; try clear hcz30_0; try clear hcz30_1; try clear hcz34_0; try clear hcz34_1
                try clear hcz35_0; try clear hcz35_1; try clear hcz35_2; try clear hcz35_3; try clear hcz35_4; try clear hcz45_0; try clear hcz45_1; try clear hcz45_2; try clear hcz45_3; try clear hcz45_4; try clear hcz51_0; try clear hcz51_1; try clear hcz51_2; try clear hcz51_3; try clear hcz51_4; try clear hfz18_0; try clear hfz18_1; try clear hfz30_0; try clear hfz30_1; try clear hfz34_0; try clear hfz34_1
                try clear hfz35_0; try clear hfz35_1; try clear hfz35_2; try clear hfz35_3; try clear hfz35_4; try clear hfz45_0; try clear hfz45_1; try clear hfz45_2; try clear hfz45_3; try clear hfz45_4; try clear hfz51_0; try clear hfz51_1; try clear hfz51_2; try clear hfz51_3; try clear hfz51_4; try clear hx292_0; try clear hx292_1; try clear p292; try clear q292
                obtain ⟨x9_4, x95_4, rfl, HA, HK4, HO_9, HO_289003, HO_289004, HO_314003, HO_314004, HO_315003, HO_315004, BK285, BK288, BK293, BK313, BK314, HB⟩ := hrel
                have hl9_4 := (Kd.R_reads' HO_9.out).1
                rw [hl9_4] at HO_9
                (try simp only [hl9_4])
                (try simp only [hl9_4] at BK285)
                (try simp only [hl9_4] at BK288)
                (try simp only [hl9_4] at BK293)
                (try simp only [hl9_4] at BK313)
                (try simp only [hl9_4] at BK314)
                (try simp only [hl9_4] at HO_289003)
                (try simp only [hl9_4] at HO_289004)
                (try simp only [hl9_4] at HO_314003)
                (try simp only [hl9_4] at HO_314004)
                (try simp only [hl9_4] at HO_315003)
                (try simp only [hl9_4] at HO_315004)
                cases gk with
                | zero => exact absurd HA.out (by simp [paymasterlaw14_WithholdYear.l1])
                | succ k4 =>
                 have H := HA.out
                 clear HA
                 simp only [paymasterlaw14_WithholdYear.l1] at H
                 by_cases c79 : x95_4 < (x9_2.length : Int)
                 ·rw [if_pos c79] at H
                  have c79b0 : decide (x95_4 < (x9_2.length : Int)) = true := decide_eq_true c79
                  clear c79
                  by_cases c80 : 0 ≤ x95_4
                  ·rw [if_pos c80] at H
                   have c80b0 : decide (0 ≤ x95_4) = true := decide_eq_true c80
                   clear c80
                   by_cases c81 : x95_4 < (x9_4.length : Int)
                   ·rw [if_pos c81] at H
                    have c81b0 : decide (x95_4 < (x9_4.length : Int)) = true := decide_eq_true c81
                    clear c81
                    by_cases c82 : x95_4 < (t306.length : Int)
                    ·rw [if_pos c82] at H
                     have c82b0 : decide (x95_4 < (t306.length : Int)) = true := decide_eq_true c82
                     clear c82
                     obtain ⟨y319, hy319⟩ : ∃ y_ : List Int, y_ = (x9_4.set (x95_4 : Int).toNat (wrap64 ((rd x9_4 x95_4) + (rd t306 x95_4)))) := ⟨_, rfl⟩
                     replace H : (if (wrap64 ((rd x9_4 x95_4) + (rd t306 x95_4))) < 0 then (none) else (paymasterlaw14_WithholdYear.l1 k4 l1 (wrap64 (x6_2 + (Int.tmod ((rd_T58 l1 x36_2).f0) 1099511627776))) (wrap64 (x7_2 + (Int.tmod ((rd_T58 l1 x36_2).f1) 1099511627776))) (wrap64 (x8_2 + t305)) y319 l1 (l1.length : Int) x36_2 (x9_2.length : Int) (wrap64 (x95_4 + 1)) l0_0 l0_1 t294 t295 t296 t297 t300 t303 t304 t305 t306 t309)) = some r := by first | (rw [hy319]; with_reducible exact H) | (have H2_ := (Option.bind_some _ _).symm.trans H; rw [hy319]; with_reducible exact H2_) | (have H2_ := (Option.bind_some _ _).symm.trans H; with_reducible exact H2_) | with_reducible exact H | (rw [hy319]; exact H) | exact H
                     have Ny319 := Aside0.mk hy319
                     clear hy319
                     by_cases c85 : (wrap64 ((rd x9_4 x95_4) + (rd t306 x95_4))) < 0
                     ·rw [if_pos c85] at H
                      exact absurd H (by simp)
                     ·rw [if_neg c85] at H
                      have c85b0 : decide ((wrap64 ((rd x9_4 x95_4) + (rd t306 x95_4))) < 0) = false := decide_eq_false c85
                      clear c85
                      have H' := Aside0.mk H
                      clear H
                      try go_wp2
                      replace HO_9 := Aside0.mk (Kd.R_drew HO_9.out)
                      replace HO_289003 := Aside0.mk (Kd.R_drew HO_289003.out)
                      replace HO_289004 := Aside0.mk (Kd.R_drew HO_289004.out)
                      replace HO_314003 := Aside0.mk (Kd.R_drew HO_314003.out)
                      replace HO_314004 := Aside0.mk (Kd.R_drew HO_314004.out)
                      replace HO_315003 := Aside0.mk (Kd.R_drew HO_315003.out)
                      replace HO_315004 := Aside0.mk (Kd.R_drew HO_315004.out)
                      replace BK285 := Aside0.mk (blk_drew BK285.out)
                      replace BK288 := Aside0.mk (blk_drew BK288.out)
                      replace BK293 := Aside0.mk (blk_drew BK293.out)
                      replace BK313 := Aside0.mk (blk_drew BK313.out)
                      replace BK314 := Aside0.mk (blk_drew BK314.out)
                      replace HB := Aside0.mk (below_drew1 HB.out)
                      have p317 : 0 ≤ (x95_4 : Int) := od_
                      have q317 : x95_4 < (x9_4.length : Int) := od_
                      obtain ⟨ad317, e317, hx317_0⟩ := Kd.at_int (Kd.R_reads' HO_9.out).2.2 x95_4 p317 q317
                      cases e317
                      replace p317 := eq_true p317
                      replace q317 := eq_true q317
                      have p318 : 0 ≤ (x95_4 : Int) := od_
                      have q318 : x95_4 < (t306.length : Int) := od_
                      obtain ⟨ad318, e318, hx318_0⟩ := Kd.at_int (Kd.R_reads' HO_315003.out).2.2 x95_4 p318 q318
                      cases e318
                      replace p318 := eq_true p318
                      replace q318 := eq_true q318
                      have p83 : 0 ≤ (x95_4 : Int) := od_
                      have q83 : (x95_4 : Int) < ((x9_4.length : Int) : Int) := od_
                      obtain ⟨go83, co83, eo83, gb83, gl83, cl83, HG83⟩ := Kd.R_form HO_9.out (by omega)
                      (first | cases eo83 | (injection eo83 with ea_ en_ ec_; (first | subst ea_ | (injection ea_ with ea_; subst ea_)); subst ec_; clear en_))
                      have GB83 := Aside0.mk gb83
                      have GG83 := Aside0.mk HG83
                      clear gb83 gl83 HG83
                      (first | simp only [add_plain] at hx317_0 | skip)
                      obtain ⟨hx83_0, hf83_0⟩ := Kd.R_celln 0 HO_9.out (x95_4 : Int) p83 q83
                      replace p83 := eq_true p83
                      replace q83 := eq_true q83
                      have HP87 := Kd.R_putn HO_9.out (x95_4 : Int) (wrap64 ((rd x9_4 x95_4) + (rd t306 x95_4)))
                      rw [← Ny319.out] at HP87
                      have HQ87 := Aside0.mk HP87
                      clear HP87
                      refine start_ (n := 12) (S := fun w' => w'.cell? ⟨gb314, 0, none⟩ = some (.int .i64 t303) ∧ w'.cell? ⟨gb314, 1, none⟩ = some (.int .i64 t304) ∧ w'.cell? ⟨gb314, 2, none⟩ = some (.int .i64 t305) ∧ w'.cell? ⟨gb314, 3, none⟩ = some (.slice (some ad318) t306.length co52) ∧ w'.cell? ⟨gb314, 4, none⟩ = some (.slice Ao53 t309.length co53) ∧ w'.cell? ⟨go83, (x95_4).toNat, none⟩ = some (.int .i64 (rd x9_4 x95_4)) ∧ w'.cell? (ad318.add (x95_4).toNat) = some (.int .i64 (rd t306 x95_4))) (ds := [11]) #[false, false, false, false, false, false, false, false, false, false, false, false] (by kernel_rfl) rfl rfl ⟨(blk_cell BK314.out 0).trans rfl, (blk_cell BK314.out 1).trans rfl, (blk_cell BK314.out 2).trans rfl, (blk_cell BK314.out 3).trans rfl, (blk_cell BK314.out 4).trans rfl, hx317_0, hx318_0⟩ (fun hHeld => ?_); refine with_tabW paymasterlaw14_WithholdYear.tab19 paymasterlaw14_WithholdYear.bits19 (fun HT_ HW_ => ?_)
                      generalize wr.drew = w86 at HO_9 HO_289003 HO_289004 HO_314003 HO_314004 HO_315003 HO_315004 BK285 BK288 BK293 BK313 BK314 HB GG83 HQ87 hf83_0 hx317_0 hx318_0 hx83_0 hHeld ⊢
                      refine pure_ (i := 0) (N := some 98) (v := ?_) (a' := ?_) #[true, false, false, false, false, false, false, false, false, false, false, false] rfl rfl (any_of HT_.out (by kernel_rfl)) (fun _ _ _ h => h) (Or.inl ⟨by rfl, ?_⟩) ?_ ?_
                      rotate_left
                      ·intro w'
                       go_simp
                       with_reducible rfl
                      rotate_left
                      ·simp only [Act.put, List.setIfInBounds_toArray, List.set_cons_zero, List.set_cons_succ, i64_w, i32_w]
                       rfl
                      refine pure_ (i := 1) (N := some 99) (v := ?_) (a' := ?_) #[true, true, false, false, false, false, false, false, false, false, false, false] rfl rfl (any_of HT_.out (by kernel_rfl)) (fun _ _ _ h => h) (Or.inl ⟨by rfl, ?_⟩) ?_ ?_
                      rotate_left
                      ·intro w'
                       go_simp
                       with_reducible rfl
                      rotate_left
                      ·simp only [Act.put, List.setIfInBounds_toArray, List.set_cons_zero, List.set_cons_succ, i64_w, i32_w]
                       rfl
                      refine pure_ (i := 2) (N := some 100) (v := ?_) (a' := ?_) #[true, true, true, false, false, false, false, false, false, false, false, false] rfl rfl (any_of HT_.out (by kernel_rfl)) (fun _ _ _ h => h) (Or.inl ⟨by rfl, ?_⟩) ?_ ?_
                      rotate_left
                      ·intro w'
                       go_simp
                       with_reducible rfl
                      rotate_left
                      ·simp only [Act.put, List.setIfInBounds_toArray, List.set_cons_zero, List.set_cons_succ, i64_w, i32_w]
                       rfl
                      refine pure_ (i := 4) (N := some 102) (v := ?_) (a' := ?_) #[true, true, true, false, true, false, false, false, false, false, false, false] rfl rfl (any_of HT_.out (by kernel_rfl)) (fun _ _ _ h => h) (Or.inl ⟨by rfl, ?_⟩) ?_ ?_
                      rotate_left
                      ·intro w'
                       go_simp
                       with_reducible rfl
                      rotate_left
                      ·simp only [Act.put, List.setIfInBounds_toArray, List.set_cons_zero, List.set_cons_succ, i64_w, i32_w]
                       rfl
                      refine pure_ (i := 6) (N := some 104) (v := ?_) (a' := ?_) #[true, true, true, false, true, false, true, false, false, false, false, false] rfl rfl (any_of HT_.out (by kernel_rfl)) (fun _ _ _ h => h) (Or.inl ⟨by rfl, ?_⟩) ?_ ?_
                      rotate_left
                      ·intro w'
                       go_simp
                       with_reducible rfl
                      rotate_left
                      ·simp only [Act.put, List.setIfInBounds_toArray, List.set_cons_zero, List.set_cons_succ, i64_w, i32_w]
                       rfl
                      refine take_ (i := 3) (N := some 101) (v := ?_) (a' := ?_) #[true, true, true, true, true, false, true, false, false, false, false, false] rfl rfl (take_ofW HT_.out HW_.out (by kernel_rfl)) (fun _ _ _ h => h) (Or.inl ⟨by rfl, ?_⟩) hHeld ?_ ?_
                      rotate_left
                      ·rintro w' ⟨s0, s1, s2, s3, s4, s5, s6⟩
                       go_simp
                       with_reducible rfl
                      rotate_left
                      ·simp only [Act.put, List.setIfInBounds_toArray, List.set_cons_zero, List.set_cons_succ, i64_w, i32_w]
                       rfl
                      refine take_ (i := 5) (N := some 103) (v := ?_) (a' := ?_) #[true, true, true, true, true, true, true, false, false, false, false, false] rfl rfl (take_ofW HT_.out HW_.out (by kernel_rfl)) (fun _ _ _ h => h) (Or.inl ⟨by rfl, ?_⟩) hHeld ?_ ?_
                      rotate_left
                      ·rintro w' ⟨s0, s1, s2, s3, s4, s5, s6⟩
                       go_simp
                       with_reducible rfl
                      rotate_left
                      ·simp only [Act.put, List.setIfInBounds_toArray, List.set_cons_zero, List.set_cons_succ, i64_w, i32_w]
                       rfl
                      refine pure_ (i := 7) (N := some 105) (v := ?_) (a' := ?_) #[true, true, true, true, true, true, true, true, false, false, false, false] rfl rfl (any_of HT_.out (by kernel_rfl)) (fun _ _ _ h => h) (Or.inl ⟨by rfl, ?_⟩) ?_ ?_
                      rotate_left
                      ·intro w'
                       go_simp
                       with_reducible rfl
                      rotate_left
                      ·simp only [Act.put, List.setIfInBounds_toArray, List.set_cons_zero, List.set_cons_succ, i64_w, i32_w]
                       rfl
                      refine take_ (i := 8) (N := some 106) (v := ?_) (a' := ?_) #[true, true, true, true, true, true, true, true, true, false, false, false] rfl rfl (take_ofW HT_.out HW_.out (by kernel_rfl)) (fun _ _ _ h => h) (Or.inl ⟨by rfl, ?_⟩) hHeld ?_ ?_
                      rotate_left
                      ·rintro w' ⟨s0, s1, s2, s3, s4, s5, s6⟩
                       go_simp
                       with_reducible rfl
                      rotate_left
                      ·simp only [Act.put, List.setIfInBounds_toArray, List.set_cons_zero, List.set_cons_succ, i64_w, i32_w]
                       rfl
                      refine pure_ (i := 9) (N := some 107) (v := ?_) (a' := ?_) #[true, true, true, true, true, true, true, true, true, true, false, false] rfl rfl (any_of HT_.out (by kernel_rfl)) (fun _ _ _ h => h) (Or.inl ⟨by rfl, ?_⟩) ?_ ?_
                      rotate_left
                      ·intro w'
                       go_simp
                       with_reducible rfl
                      rotate_left
                      ·simp only [Act.put, List.setIfInBounds_toArray, List.set_cons_zero, List.set_cons_succ, i64_w, i32_w]
                       rfl
                      refine pure_ (i := 10) (N := some 108) (v := ?_) (a' := ?_) #[true, true, true, true, true, true, true, true, true, true, true, false] rfl rfl (any_of HT_.out (by kernel_rfl)) (fun _ _ _ h => h) (Or.inl ⟨by rfl, ?_⟩) ?_ ?_
                      rotate_left
                      ·intro w'
                       go_simp
                       with_reducible rfl
                      rotate_left
                      ·simp only [Act.put, List.setIfInBounds_toArray, List.set_cons_zero, List.set_cons_succ, i64_w, i32_w]
                       rfl
                      refine last_ (i := 11) (N := none) #[true, true, true, true, true, true, true, true, true, true, true, true] rfl rfl (one_of HT_.out (by kernel_rfl)) (by decide) (fun K hK => ?_)
                      refine skip_ (w1 := ?_) (by rfl) rfl ?_ ?_
                      rotate_left
                      ·go_simp
                       rfl
                      refine hK.out _ _ ?_
                      clear hK K
                      refine done_ (done_of HT_.out (by kernel_rfl)) ?_
                      have p84 : 0 ≤ (x95_4 : Int) := od_
                      have q84 : (x95_4 : Int) < ((x9_4.length : Int) : Int) := od_
                      replace p84 := eq_true p84
                      replace q84 := eq_true q84
                      try go_wp2
                      (try simp only [← hl9_4])
                      go_roundg k4
                      case measure => have := HJ2.out; have := HK2.out; have := HJ25.out; have := HK4.out; omega
                      case rel => exact ⟨(y319), (wrap64 (x95_4 + 1)), sm_, H', ⟨by have := HJ2.out; have := HK2.out; have := HJ25.out; have := HK4.out; omega⟩, ⟨by (try simp only [hl9_4]); refine kr_ ?_; exact HQ87.out⟩, ⟨by (try simp only [hl9_4]); refine kr_ ?_; exact Kd.R_mono (Kd.R_far (p := ⟨go83, (x95_4 : Int).toNat, none⟩) (Kd.R_mono HO_289003.out (fun k_ hk => (⟨hk, fun e_ => hk.1 (by rw [e_]; rfl)⟩ : _ ∧ k_ ≠ go83))) (fun _ hk => hk.2) (.int .i64 (wrap64 ((rd x9_4 x95_4) + (rd t306 x95_4))))) (fun _ hk => ⟨hk.1.1, ⟨hk.1.2.1, ⟨hk.1.2.2.1, ⟨hk.1.2.2.2.1, ⟨hk.1.2.2.2.2.1, hk.1.2.2.2.2.2⟩⟩⟩⟩⟩)⟩, ⟨by (try simp only [hl9_4]); refine kr_ ?_; exact Kd.R_mono (Kd.R_far (p := ⟨go83, (x95_4 : Int).toNat, none⟩) (Kd.R_mono HO_289004.out (fun k_ hk => (⟨hk, fun e_ => hk.1 (by rw [e_]; rfl)⟩ : _ ∧ k_ ≠ go83))) (fun _ hk => hk.2) (.int .i64 (wrap64 ((rd x9_4 x95_4) + (rd t306 x95_4))))) (fun _ hk => ⟨hk.1.1, ⟨hk.1.2.1, ⟨hk.1.2.2.1, ⟨hk.1.2.2.2.1, ⟨hk.1.2.2.2.2.1, hk.1.2.2.2.2.2⟩⟩⟩⟩⟩)⟩, ⟨by (try simp only [hl9_4]); refine kr_ ?_; exact Kd.R_mono (Kd.R_far (p := ⟨go83, (x95_4 : Int).toNat, none⟩) (Kd.R_mono HO_314003.out (fun k_ hk => (⟨hk, fun e_ => hk.1 (by rw [e_]; rfl)⟩ : _ ∧ k_ ≠ go83))) (fun _ hk => hk.2) (.int .i64 (wrap64 ((rd x9_4 x95_4) + (rd t306 x95_4))))) (fun _ hk => ⟨hk.1.1, ⟨hk.1.2.1, ⟨hk.1.2.2.1, ⟨hk.1.2.2.2.1, ⟨hk.1.2.2.2.2.1, hk.1.2.2.2.2.2⟩⟩⟩⟩⟩)⟩, ⟨by (try simp only [hl9_4]); refine kr_ ?_; exact Kd.R_mono (Kd.R_far (p := ⟨go83, (x95_4 : Int).toNat, none⟩) (Kd.R_mono HO_314004.out (fun k_ hk => (⟨hk, fun e_ => hk.1 (by rw [e_]; rfl)⟩ : _ ∧ k_ ≠ go83))) (fun _ hk => hk.2) (.int .i64 (wrap64 ((rd x9_4 x95_4) + (rd t306 x95_4))))) (fun _ hk => ⟨hk.1.1, ⟨hk.1.2.1, ⟨hk.1.2.2.1, ⟨hk.1.2.2.2.1, ⟨hk.1.2.2.2.2.1, hk.1.2.2.2.2.2⟩⟩⟩⟩⟩)⟩, ⟨by (try simp only [hl9_4]); refine kr_ ?_; exact Kd.R_mono (Kd.R_far (p := ⟨go83, (x95_4 : Int).toNat, none⟩) (Kd.R_mono HO_315003.out (fun k_ hk => (⟨hk, fun e_ => hk.1 (by rw [e_]; rfl)⟩ : _ ∧ k_ ≠ go83))) (fun _ hk => hk.2) (.int .i64 (wrap64 ((rd x9_4 x95_4) + (rd t306 x95_4))))) (fun _ hk => ⟨hk.1.1, ⟨hk.1.2.1, ⟨hk.1.2.2.1, ⟨hk.1.2.2.2.1, ⟨hk.1.2.2.2.2.1, hk.1.2.2.2.2.2⟩⟩⟩⟩⟩)⟩, ⟨by (try simp only [hl9_4]); refine kr_ ?_; exact Kd.R_mono (Kd.R_far (p := ⟨go83, (x95_4 : Int).toNat, none⟩) (Kd.R_mono HO_315004.out (fun k_ hk => (⟨hk, fun e_ => hk.1 (by rw [e_]; rfl)⟩ : _ ∧ k_ ≠ go83))) (fun _ hk => hk.2) (.int .i64 (wrap64 ((rd x9_4 x95_4) + (rd t306 x95_4))))) (fun _ hk => ⟨hk.1.1, ⟨hk.1.2.1, ⟨hk.1.2.2.1, ⟨hk.1.2.2.2.1, ⟨hk.1.2.2.2.2.1, hk.1.2.2.2.2.2⟩⟩⟩⟩⟩)⟩, ⟨by (try simp only [hl9_4]); refine bq_ ?_; refine blk_far ?_ (by have h_ := Kd.R_ne HO_9.out BK285.out (by decide); intro e_; exact h_ (by rw [e_]; rfl)) _; refine bq_ ?_; exact BK285.out⟩, ⟨by (try simp only [hl9_4]); refine bq_ ?_; refine blk_far ?_ (by have h_ := Kd.R_ne HO_9.out BK288.out (by decide); intro e_; exact h_ (by rw [e_]; rfl)) _; refine bq_ ?_; exact BK288.out⟩, ⟨by (try simp only [hl9_4]); refine bq_ ?_; refine blk_far ?_ (by have h_ := Kd.R_ne HO_9.out BK293.out (by decide); intro e_; exact h_ (by rw [e_]; rfl)) _; refine bq_ ?_; exact BK293.out⟩, ⟨by (try simp only [hl9_4]); refine bq_ ?_; refine blk_far ?_ (by have h_ := Kd.R_ne HO_9.out BK313.out (by decide); intro e_; exact h_ (by rw [e_]; rfl)) _; refine bq_ ?_; exact BK313.out⟩, ⟨by (try simp only [hl9_4]); refine bq_ ?_; refine blk_far ?_ (by have h_ := Kd.R_ne HO_9.out BK314.out (by decide); intro e_; exact h_ (by rw [e_]; rfl)) _; refine bq_ ?_; exact BK314.out⟩, ⟨by repeat (first | (with_reducible first | exact HB.out | apply below_alloc | apply pw_below_drewN | apply below_drew1 | refine below_set ?_ GB83.out | refine below_set ?_ GE285.out | refine below_set ?_ GE288.out | refine below_set ?_ GE293.out | refine below_set ?_ GE313.out | refine below_set ?_ GE314.out) | exact HB.out)⟩⟩
                    ·rw [if_neg c82] at H
                     exact absurd H (by simp)
                   ·rw [if_neg c81] at H
                    exact absurd H (by simp)
                  ·rw [if_neg c80] at H
                   exact absurd H (by simp)
                 ·rw [if_neg c79] at H
                  have c79b0 : decide (x95_4 < (x9_2.length : Int)) = false := decide_eq_false c79
                  (try simp only [hl9_4] at c79b0)
                  clear c79
                  have H' := Aside0.mk H
                  clear H
                  have hnb88 := NB313_285.out
                  have hnc88 := NB285_313.out
                  have hnb89 := NB313_288.out
                  have hnc89 := NB288_313.out
                  have hnb90 := NB313_293.out
                  have hnc90 := NB293_313.out
                  have hnb91 := NB313_314.out
                  have hnc91 := NB314_313.out
                  obtain ⟨hcz92_0, hcz92_1, hcz92_2, hcz92_3, hcz92_4, hfz92_0, hfz92_1, hfz92_2, hfz92_3, hfz92_4⟩ := c5_ BK313.out
                  have hnb93 := NB288_285.out
                  have hnc93 := NB285_288.out
                  have hnb94 := NB288_293.out
                  have hnc94 := NB293_288.out
                  have hnb95 := NB288_314.out
                  have hnc95 := NB314_288.out
                  obtain ⟨hcz96_0, hcz96_1, hcz96_2, hcz96_3, hcz96_4, hfz96_0, hfz96_1, hfz96_2, hfz96_3, hfz96_4⟩ := c5_ BK288.out
                  go_wp2
                  (try simp only [← hl9_4])
                  go_roundg k4
                  case measure => have := HJ2.out; have := HK2.out; have := HJ25.out; have := HK4.out; omega
                  case rel => exact ⟨((wrap64 (x6_2 + (Int.tmod ((rd_T58 l1 x36_2).f0) 1099511627776)))), ((wrap64 (x7_2 + (Int.tmod ((rd_T58 l1 x36_2).f1) 1099511627776)))), ((wrap64 (x8_2 + t305))), (x9_4), (wrap64 (x36_2 + 1)), (t294), (t295), (t296), (t297), (t300), (.slice Ao46 t297.length co46), (.slice Ao47 t300.length co47), sm_, sm_, sm_, sm_, H', ⟨by have := HJ2.out; have := HK2.out; have := HJ25.out; have := HK4.out; omega⟩, ⟨by (try simp only [hl9_4]); refine kr_ ?_; exact Kd.R_mono (rf5_ (Kd.R_types HO_9.out BK288.out (by decide))) (fun _ hk => ⟨hk.1.2.2.1, hk.1.2.2.2.1⟩)⟩, ⟨by (try simp only [hl9_4]); refine kr_ ?_; exact Kd.R_mono (rf5_ (Kd.R_types HO_314003.out BK288.out (by decide))) (fun _ hk => ⟨hk.1.1, hk.1.2.2.2.1⟩)⟩, ⟨by (try simp only [hl9_4]); refine kr_ ?_; exact Kd.R_mono (rf5_ (Kd.R_types HO_314004.out BK288.out (by decide))) (fun _ hk => ⟨hk.1.1, hk.1.2.2.2.1⟩)⟩, ⟨by (try simp only [hl9_4]); refine bq_ ?_; refine blk_far ?_ NB285_288.out _; refine bq_ ?_; refine blk_far ?_ NB285_288.out _; refine bq_ ?_; refine blk_far ?_ NB285_288.out _; refine bq_ ?_; refine blk_far ?_ NB285_288.out _; refine bq_ ?_; refine blk_far ?_ NB285_288.out _; refine bq_ ?_; exact BK285.out⟩, ⟨by (try simp only [hl9_4]); refine bq_ ?_; refine blk_put (cs := #[.int .i64 t294, .int .i64 t295, .int .i64 t296, .slice Ao46 t297.length co46, .slice Ao37 x289004_2.length co37]) ?_ 4 _ rfl; refine bq_ ?_; refine blk_put (cs := #[.int .i64 t294, .int .i64 t295, .int .i64 t296, .slice Ao36 x289003_2.length co36, .slice Ao37 x289004_2.length co37]) ?_ 3 _ rfl; refine bq_ ?_; refine blk_put (cs := #[.int .i64 t294, .int .i64 t295, .int .i64 x289002_2, .slice Ao36 x289003_2.length co36, .slice Ao37 x289004_2.length co37]) ?_ 2 _ rfl; refine bq_ ?_; refine blk_put (cs := #[.int .i64 t294, .int .i64 x289001_2, .int .i64 x289002_2, .slice Ao36 x289003_2.length co36, .slice Ao37 x289004_2.length co37]) ?_ 1 _ rfl; refine bq_ ?_; refine blk_put (cs := #[.int .i64 x289000_2, .int .i64 x289001_2, .int .i64 x289002_2, .slice Ao36 x289003_2.length co36, .slice Ao37 x289004_2.length co37]) ?_ 0 _ rfl; refine bq_ ?_; exact BK288.out⟩, ⟨bl_⟩⟩
           ·rw [if_neg c25] at H
            have c25b0 : (t312 == 0) = false := beq_eq_false_iff_ne.mpr c25
            have c25b1 : (t312 != 0) = true := bne_iff_ne.mpr c25
            by_cases c97 : t312 = 1
            ·rw [if_pos c97] at H
             have c97b0 : (t312 == 1) = true := beq_iff_eq.mpr c97
             have c97b1 : (t312 != 1) = false := bne_eq_false_iff_eq.mpr c97
             clear c97
             replace H := Option.bind_eq_some_iff.mp H
             obtain ⟨t315, A980, H⟩ := H
             (try dsimp only at H)
             have A98 := Aside0.mk A980
             clear A980
             by_cases c99 : t315 = true
             ·subst c99
              rw [if_pos rfl] at H
              exact absurd H (by simp)
             ·replace c99 := Bool.eq_false_iff.mpr c99
              subst c99
              rw [if_neg (show ¬ (false = true) by decide)] at H
              replace H := Option.bind_eq_some_iff.mp H
              obtain ⟨t316, A1000, H⟩ := H
              (try dsimp only at H)
              have A100 := Aside0.mk A1000
              clear A1000
              obtain rfl := Option.some.inj H
              have p292 : 0 ≤ (x36_2 : Int) := od_
              have q292 : x36_2 < (l1.length : Int) := od_
              obtain ⟨ad292, e292, hx292_0, hx292_1⟩ := at_T58 HR1.out x36_2 p292 q292
              cases e292
              replace hx292_0 := (HB.out.cell (World.block_lt_of_cell? w _ hx292_0)).trans hx292_0
              replace hx292_1 := (HB.out.cell (World.block_lt_of_cell? w _ hx292_1)).trans hx292_1
              replace p292 := eq_true p292
              replace q292 := eq_true q292
              try go_wp2_with (first | ((with_reducible refine gate_dst (N := 11) rfl ?_); (try (refine gate_guard (by rfl) ?_; dsimp only)); refine bx_ 11 #[.int .i64 0, .int .i64 0] 54 ?_; intro gb293 hg w101 hbox hb; have BK293 := Aside0.mk hbox; have GW293 := gs_ hg; have GE293 := gs_ hg; have NB285_293 := nl_ hg BK285.out; have NB293_285 := ng_ hg BK285.out; have NB288_293 := nl_ hg BK288.out; have NB293_288 := ng_ hg BK288.out; replace HO_9 := rl_ HO_9.out hb; replace HO_289003 := rl_ HO_289003.out hb; replace HO_289004 := rl_ HO_289004.out hb; replace BK285 := bb_ BK285.out hb; replace BK288 := bb_ BK288.out hb; replace HB := hs_ hb; clear hb hbox hg; have hnb102 := NB293_285.out; have hnc102 := NB285_293.out; have hnb103 := NB293_288.out; have hnc103 := NB288_293.out; obtain ⟨hcz104_0, hcz104_1, hfz104_0, hfz104_1⟩ := c2_ BK293.out))
              have n0_ : Aside0 (Kd.R (Kd.int .i64) 3 ((w101.setCell ⟨gb293, 0, none⟩ (.int .i64 ((rd_T58 l1 x36_2).f0))).setCell ⟨gb293, 1, none⟩ (.int .i64 ((rd_T58 l1 x36_2).f1))) w.heap.size (fun k_ => some k_ ≠ (u289003 : Value).ownBlock ∧ some k_ ≠ (u289004 : Value).ownBlock) v290 x9_2) := ⟨rs_ (ty_ HO_9.out BK293.out)⟩
              have n1_ : Aside0 (Kd.R (Kd.int .i64) 3 ((w101.setCell ⟨gb293, 0, none⟩ (.int .i64 ((rd_T58 l1 x36_2).f0))).setCell ⟨gb293, 1, none⟩ (.int .i64 ((rd_T58 l1 x36_2).f1))) w.heap.size (fun k_ => some k_ ≠ (v290 : Value).ownBlock ∧ some k_ ≠ (u289004 : Value).ownBlock) u289003 x289003_2) := ⟨rs_ (ty_ HO_289003.out BK293.out)⟩
              have n2_ : Aside0 (Kd.R (Kd.int .i64) 3 ((w101.setCell ⟨gb293, 0, none⟩ (.int .i64 ((rd_T58 l1 x36_2).f0))).setCell ⟨gb293, 1, none⟩ (.int .i64 ((rd_T58 l1 x36_2).f1))) w.heap.size (fun k_ => some k_ ≠ (v290 : Value).ownBlock ∧ some k_ ≠ (u289003 : Value).ownBlock) u289004 x289004_2) := ⟨rs_ (ty_ HO_289004.out BK293.out)⟩
              have n3_ : Aside0 (((w101.setCell ⟨gb293, 0, none⟩ (.int .i64 ((rd_T58 l1 x36_2).f0))).setCell ⟨gb293, 1, none⟩ (.int .i64 ((rd_T58 l1 x36_2).f1))).heap[gb285]? = some (.cells #[.slice A0_0 l0_0.length c0_0, .slice A0_1 l0_1.length c0_1] 25 (0, 0))) := ⟨bf_ BK285.out⟩
              have n4_ : Aside0 (((w101.setCell ⟨gb293, 0, none⟩ (.int .i64 ((rd_T58 l1 x36_2).f0))).setCell ⟨gb293, 1, none⟩ (.int .i64 ((rd_T58 l1 x36_2).f1))).heap[gb288]? = some (.cells #[.int .i64 x289000_2, .int .i64 x289001_2, .int .i64 x289002_2, u289003, u289004] 30 (0, 0))) := ⟨bf_ BK288.out⟩
              have n5_ : Aside0 (((w101.setCell ⟨gb293, 0, none⟩ (.int .i64 ((rd_T58 l1 x36_2).f0))).setCell ⟨gb293, 1, none⟩ (.int .i64 ((rd_T58 l1 x36_2).f1))).heap[gb293]? = some (.cells #[.int .i64 ((rd_T58 l1 x36_2).f0), .int .i64 ((rd_T58 l1 x36_2).f1)] 54 (0, 0))) := ⟨bp_ BK293.out⟩
              have n6_ : Aside0 (Below w.heap.size w ((w101.setCell ⟨gb293, 0, none⟩ (.int .i64 ((rd_T58 l1 x36_2).f0))).setCell ⟨gb293, 1, none⟩ (.int .i64 ((rd_T58 l1 x36_2).f1)))) := ⟨bl_⟩
              (try clear HO_9)
              (try clear HO_289003)
              (try clear HO_289004)
              (try clear BK285)
              (try clear BK288)
              (try clear BK293)
              (try clear HB)
              generalize ((w101.setCell ⟨gb293, 0, none⟩ (.int .i64 ((rd_T58 l1 x36_2).f0))).setCell ⟨gb293, 1, none⟩ (.int .i64 ((rd_T58 l1 x36_2).f1))) = w105 at n0_ n1_ n2_ n3_ n4_ n5_ n6_ ⊢
              have HO_9 := n0_
              have HO_289003 := n1_
              have HO_289004 := n2_
              have BK285 := n3_
              have BK288 := n4_
              have BK293 := n5_
              have HB := n6_
              clear n0_ n1_ n2_ n3_ n4_ n5_ n6_
              replace HO_9 := Aside0.mk (Kd.R_drew HO_9.out)
              replace HO_289003 := Aside0.mk (Kd.R_drew HO_289003.out)
              replace HO_289004 := Aside0.mk (Kd.R_drew HO_289004.out)
              replace BK285 := Aside0.mk (blk_drew BK285.out)
              replace BK288 := Aside0.mk (blk_drew BK288.out)
              replace BK293 := Aside0.mk (blk_drew BK293.out)
              replace HB := Aside0.mk (below_drew1 HB.out)
              refine start_ (n := 8) (S := fun w' => w'.cell? ⟨gb293, 0, none⟩ = some (.int .i64 ((rd_T58 l1 x36_2).f0)) ∧ w'.cell? ⟨gb293, 1, none⟩ = some (.int .i64 ((rd_T58 l1 x36_2).f1))) (ds := []) #[false, false, false, false, false, false, false, false] (by kernel_rfl) rfl rfl ⟨(blk_cell BK293.out 0).trans rfl, (blk_cell BK293.out 1).trans rfl⟩ (fun hHeld => ?_); refine with_tabW paymasterlaw14_WithholdYear.tab9 paymasterlaw14_WithholdYear.bits9 (fun HT_ HW_ => ?_)
              generalize w105.drew = w106 at HO_9 HO_289003 HO_289004 BK285 BK288 BK293 HB hHeld ⊢
              refine pure_ (i := 0) (N := some 40) (v := ?_) (a' := ?_) #[true, false, false, false, false, false, false, false] rfl rfl (any_of HT_.out (by kernel_rfl)) (fun _ _ _ h => h) (Or.inl ⟨by rfl, ?_⟩) ?_ ?_
              rotate_left
              ·intro w'
               go_simp
               with_reducible rfl
              rotate_left
              ·simp only [Act.put, List.setIfInBounds_toArray, List.set_cons_zero, List.set_cons_succ, i64_w, i32_w]
               rfl
              refine pure_ (i := 3) (N := some 43) (v := ?_) (a' := ?_) #[true, false, false, true, false, false, false, false] rfl rfl (any_of HT_.out (by kernel_rfl)) (fun _ _ _ h => h) (Or.inl ⟨by rfl, ?_⟩) ?_ ?_
              rotate_left
              ·intro w'
               go_simp
               with_reducible rfl
              rotate_left
              ·simp only [Act.put, List.setIfInBounds_toArray, List.set_cons_zero, List.set_cons_succ, i64_w, i32_w]
               rfl
              refine take_ (i := 1) (N := some 41) (v := ?_) (a' := ?_) #[true, true, false, true, false, false, false, false] rfl rfl (take_ofW HT_.out HW_.out (by kernel_rfl)) (fun _ _ _ h => h) (Or.inl ⟨by rfl, ?_⟩) hHeld ?_ ?_
              rotate_left
              ·rintro w' ⟨s0, s1⟩
               go_simp
               with_reducible rfl
              rotate_left
              ·simp only [Act.put, List.setIfInBounds_toArray, List.set_cons_zero, List.set_cons_succ, i64_w, i32_w]
               rfl
              refine pure_ (i := 2) (N := some 42) (v := ?_) (a' := ?_) #[true, true, true, true, false, false, false, false] rfl rfl (any_of HT_.out (by kernel_rfl)) (fun _ _ _ h => h) (Or.inl ⟨by rfl, ?_⟩) ?_ ?_
              rotate_left
              ·intro w'
               go_simp
               with_reducible rfl
              rotate_left
              ·simp only [Act.put, List.setIfInBounds_toArray, List.set_cons_zero, List.set_cons_succ, i64_w, i32_w]
               rfl
              refine pure_ (i := 6) (N := some 12) (v := ?_) (a' := ?_) #[true, true, true, true, false, false, true, false] rfl rfl (any_of HT_.out (by kernel_rfl)) (fun _ _ _ h => h) (Or.inl ⟨by rfl, ?_⟩) ?_ ?_
              rotate_left
              ·intro w'
               go_simp
               with_reducible rfl
              rotate_left
              ·simp only [Act.put, List.setIfInBounds_toArray, List.set_cons_zero, List.set_cons_succ, i64_w, i32_w]
               rfl
              refine take_ (i := 4) (N := some 44) (v := ?_) (a' := ?_) #[true, true, true, true, true, false, true, false] rfl rfl (take_ofW HT_.out HW_.out (by kernel_rfl)) (fun _ _ _ h => h) (Or.inl ⟨by rfl, ?_⟩) hHeld ?_ ?_
              rotate_left
              ·rintro w' ⟨s0, s1⟩
               go_simp
               with_reducible rfl
              rotate_left
              ·simp only [Act.put, List.setIfInBounds_toArray, List.set_cons_zero, List.set_cons_succ, i64_w, i32_w]
               rfl
              refine pure_ (i := 5) (N := some 45) (v := ?_) (a' := ?_) #[true, true, true, true, true, true, true, false] rfl rfl (any_of HT_.out (by kernel_rfl)) (fun _ _ _ h => h) (Or.inl ⟨by rfl, ?_⟩) ?_ ?_
              rotate_left
              ·intro w'
               go_simp
               with_reducible rfl
              rotate_left
              ·simp only [Act.put, List.setIfInBounds_toArray, List.set_cons_zero, List.set_cons_succ, i64_w, i32_w]
               rfl
              refine pure_ (i := 7) (N := some 13) (v := ?_) (a' := ?_) #[true, true, true, true, true, true, true, true] rfl rfl (any_of HT_.out (by kernel_rfl)) (fun _ _ _ h => h) (Or.inl ⟨by rfl, ?_⟩) ?_ ?_
              rotate_left
              ·intro w'
               go_simp
               with_reducible rfl
              rotate_left
              ·simp only [Act.put, List.setIfInBounds_toArray, List.set_cons_zero, List.set_cons_succ, i64_w, i32_w]
               rfl
              refine done_ (done_of HT_.out (by kernel_rfl)) ?_
              have hnb107 := NB285_288.out
              have hnc107 := NB288_285.out
              obtain ⟨hcz108_0, hcz108_1, hfz108_0, hfz108_1⟩ := c2_ BK285.out
              obtain ⟨hcz109_0, hcz109_1, hcz109_2, hcz109_3, hcz109_4, hfz109_0, hfz109_1, hfz109_2, hfz109_3, hfz109_4⟩ := c5_ BK288.out
              obtain ⟨Ao110, co110, eo110⟩ := Kd.R_slice HO_289003.out
              subst eo110
              obtain ⟨Ao111, co111, eo111⟩ := Kd.R_slice HO_289004.out
              subst eo111
              try go_wp2_with (first | ((with_reducible refine gate_callee (f := 11) rfl ?_); refine goesL_ (some 51) rfl rfl Try.func11 (by kernel_rfl) rfl #[.agg #[.slice A0_0 l0_0.length c0_0, .slice A0_1 l0_1.length c0_1], .agg #[.int .i64 x289000_2, .int .i64 x289001_2, .int .i64 x289002_2, .slice Ao110 x289003_2.length co110, .slice Ao111 x289004_2.length co111], .int .i64 (Int.tmod ((rd_T58 l1 x36_2).f0) 1099511627776), .int .i64 (Int.tmod ((rd_T58 l1 x36_2).f1) 1099511627776)] rfl ga_ ?_; (with_reducible refine (withhold_Step.calls k2 _ _ l0_0 _ _ l0_1 x289000_2 x289001_2 x289002_2 _ _ x289003_2 _ _ x289004_2 (Int.tmod ((rd_T58 l1 x36_2).f0) 1099511627776) (Int.tmod ((rd_T58 l1 x36_2).f1) 1099511627776) t294 t295 t296 t297 t300 t303 t304 t305 t306 t309 t312 _ ?side1 ?side2 ?side3 ?side4 ?side5 ?side6 ?side7 ?side8 A24.out).mono ?_); (case side1 => exact kc_ (Kd.C_below HR0_0.out HB.out)); (case side2 => exact HC0_0.out); (case side3 => exact kc_ (Kd.C_below HR0_1.out HB.out)); (case side4 => exact HC0_1.out); (case side5 => exact kc_ (Kd.R_reads' HO_289003.out).2.2); (case side6 => exact (Kd.R_reads' HO_289003.out).2.1); (case side7 => exact kc_ (Kd.R_reads' HO_289004.out).2.2); (case side8 => exact (Kd.R_reads' HO_289004.out).2.1); rintro e w112 ⟨v298, v301, v307, v310, rfl, ho0, ho1, ho2, ho3, hb⟩; refine ⟨_, rfl, ?_⟩; have HO299 := rl0_ (rn_ (rn_ (rn_ ho0 HO_9.out) HO_289003.out) HO_289004.out); have HO302 := rl0_ (rn_ (rn_ (rn_ ho1 HO_9.out) HO_289003.out) HO_289004.out); have HO308 := rl0_ (rn_ (rn_ (rn_ ho2 HO_9.out) HO_289003.out) HO_289004.out); have HO311 := rl0_ (rn_ (rn_ (rn_ ho3 HO_9.out) HO_289003.out) HO_289004.out); replace HO_9 := ro4_ HO_9.out hb ho0 ho1 ho2 ho3; replace HO_289003 := ro4_ HO_289003.out hb ho0 ho1 ho2 ho3; replace HO_289004 := ro4_ HO_289004.out hb ho0 ho1 ho2 ho3; replace BK285 := bb_ BK285.out hb; replace BK288 := bb_ BK288.out hb; replace BK293 := bb_ BK293.out hb; replace HB := hs_ hb; (try clear hb); (try clear hb2); (try clear hk); (try clear hi); (try clear ho0); (try clear ho1); (try clear ho2); (try clear ho3)) | ((with_reducible refine gate_dst (N := 14) rfl ?_); (try (refine gate_guard (by rfl) ?_; dsimp only)); refine bx_ 14 #[.int .i64 0, .int .i64 0, .int .i64 0, .slice none 0 0, .slice none 0 0] 30 ?_; intro gb313 hg w113 hbox hb; have BK313 := Aside0.mk hbox; have GW313 := gs_ hg; have GE313 := gs_ hg; have NB285_313 := nl_ hg BK285.out; have NB313_285 := ng_ hg BK285.out; have NB288_313 := nl_ hg BK288.out; have NB313_288 := ng_ hg BK288.out; have NB293_313 := nl_ hg BK293.out; have NB313_293 := ng_ hg BK293.out; replace HO_9 := rl_ HO_9.out hb; replace HO_289003 := rl_ HO_289003.out hb; replace HO_289004 := rl_ HO_289004.out hb; replace HO299 := rl_ HO299.out hb; replace HO302 := rl_ HO302.out hb; replace HO308 := rl_ HO308.out hb; replace HO311 := rl_ HO311.out hb; replace BK285 := bb_ BK285.out hb; replace BK288 := bb_ BK288.out hb; replace BK293 := bb_ BK293.out hb; replace HB := hs_ hb; clear hb hbox hg) | ((with_reducible refine gate_dst (N := 15) rfl ?_); (try (refine gate_guard (by rfl) ?_; dsimp only)); refine bx_ 15 #[.int .i64 0, .int .i64 0, .int .i64 0, .slice none 0 0, .slice none 0 0] 30 ?_; intro gb314 hg w114 hbox hb; have BK314 := Aside0.mk hbox; have GW314 := gs_ hg; have GE314 := gs_ hg; have NB285_314 := nl_ hg BK285.out; have NB314_285 := ng_ hg BK285.out; have NB288_314 := nl_ hg BK288.out; have NB314_288 := ng_ hg BK288.out; have NB293_314 := nl_ hg BK293.out; have NB314_293 := ng_ hg BK293.out; have NB313_314 := nl_ hg BK313.out; have NB314_313 := ng_ hg BK313.out; replace HO_9 := rl_ HO_9.out hb; replace HO_289003 := rl_ HO_289003.out hb; replace HO_289004 := rl_ HO_289004.out hb; replace HO299 := rl_ HO299.out hb; replace HO302 := rl_ HO302.out hb; replace HO308 := rl_ HO308.out hb; replace HO311 := rl_ HO311.out hb; replace BK285 := bb_ BK285.out hb; replace BK288 := bb_ BK288.out hb; replace BK293 := bb_ BK293.out hb; replace BK313 := bb_ BK313.out hb; replace HB := hs_ hb; clear hb hbox hg; have hnb115 := NB313_285.out; have hnc115 := NB285_313.out; have hnb116 := NB313_288.out; have hnc116 := NB288_313.out; have hnb117 := NB313_293.out; have hnc117 := NB293_313.out; have hnb118 := NB313_314.out; have hnc118 := NB314_313.out; obtain ⟨hcz119_0, hcz119_1, hcz119_2, hcz119_3, hcz119_4, hfz119_0, hfz119_1, hfz119_2, hfz119_3, hfz119_4⟩ := c5_ BK313.out; obtain ⟨Ao120, co120, eo120⟩ := Kd.R_slice HO299.out; subst eo120; obtain ⟨Ao121, co121, eo121⟩ := Kd.R_slice HO302.out; subst eo121; have hnb122 := NB314_285.out; have hnc122 := NB285_314.out; have hnb123 := NB314_288.out; have hnc123 := NB288_314.out; have hnb124 := NB314_293.out; have hnc124 := NB293_314.out; obtain ⟨hcz125_0, hcz125_1, hcz125_2, hcz125_3, hcz125_4, hfz125_0, hfz125_1, hfz125_2, hfz125_3, hfz125_4⟩ := c5_ BK314.out; obtain ⟨Ao126, co126, eo126⟩ := Kd.R_slice HO308.out; subst eo126; obtain ⟨Ao127, co127, eo127⟩ := Kd.R_slice HO311.out; subst eo127; obtain ⟨hcz128_0, hcz128_1, hfz128_0, hfz128_1⟩ := c2_ BK285.out) | (go_at_call 12; (with_reducible refine (withhold_Right.calls k2 _ _ l0_0 _ _ l0_1 false _ ?side1 ?side2 ?side3 ?side4 A98.out).mono ?_); (case side1 => exact Kd.C_below HR0_0.out bl_); (case side2 => exact HC0_0.out); (case side3 => exact Kd.C_below HR0_1.out bl_); (case side4 => exact HC0_1.out); rintro e w129 ⟨rfl, hb⟩; replace HO_9 := rb2_ (ty_ (ty_ HO_9.out BK313.out) BK314.out) hb; replace HO_289003 := rb2_ (ty_ (ty_ HO_289003.out BK313.out) BK314.out) hb; replace HO_289004 := rb2_ (ty_ (ty_ HO_289004.out BK313.out) BK314.out) hb; replace HO299 := rb2_ (ty_ (ty_ HO299.out BK313.out) BK314.out) hb; replace HO302 := rb2_ (ty_ (ty_ HO302.out BK313.out) BK314.out) hb; replace HO308 := rb2_ (ty_ (ty_ HO308.out BK313.out) BK314.out) hb; replace HO311 := rb2_ (ty_ (ty_ HO311.out BK313.out) BK314.out) hb; replace BK285 := bb_ BK285.out hb; replace BK288 := bb_ BK288.out hb; replace BK293 := bb_ BK293.out hb; replace BK313 := Aside0.mk (blk_below (g := gb313) (o := .cells #[.int .i64 t294, .int .i64 t295, .int .i64 t296, .slice Ao120 t297.length co120, .slice Ao121 t300.length co121] 30 (0, 0)) (bp_ BK313.out) hb); replace BK314 := Aside0.mk (blk_below (g := gb314) (o := .cells #[.int .i64 t303, .int .i64 t304, .int .i64 t305, .slice Ao126 t306.length co126, .slice Ao127 t309.length co127] 30 (0, 0)) (bp_ BK314.out) hb); replace HB := hs_ hb; (try clear hb); (try clear hb2); (try clear hk); (try clear hi)) | (go_at_call 10; (with_reducible refine (paymasterlaw14_awake.calls k2  t316 _ A100.out).mono ?_); rintro e w130 ⟨rfl, hb⟩; replace HO_9 := rl_ HO_9.out hb; replace HO_289003 := rl_ HO_289003.out hb; replace HO_289004 := rl_ HO_289004.out hb; replace HO299 := rl_ HO299.out hb; replace HO302 := rl_ HO302.out hb; replace HO308 := rl_ HO308.out hb; replace HO311 := rl_ HO311.out hb; replace BK285 := bb_ BK285.out hb; replace BK288 := bb_ BK288.out hb; replace BK293 := bb_ BK293.out hb; replace BK313 := bb_ BK313.out hb; replace BK314 := bb_ BK314.out hb; replace HB := hs_ hb; (try clear hb); (try clear hb2); (try clear hk); (try clear hi)))
              go_ret
              exact ⟨se_, bl_⟩
            ·rw [if_neg c97] at H
             exact absurd H (by simp)
          ·rw [if_neg c23] at H
           exact absurd H (by simp)
         ·rw [if_neg c22] at H
          exact absurd H (by simp)
        ·rw [if_neg c21] at H
         have c21b0 : decide (x36_2 < (l1.length : Int)) = false := decide_eq_false c21
         clear c21
         replace H := Option.bind_eq_some_iff.mp H
         obtain ⟨⟨t321, t322, t323, t324, t327, t330⟩, A1310, H⟩ := H
         (try dsimp only at H)
         have A131 := Aside0.mk A1310
         clear A1310
         by_cases c132 : t330 = 0
         ·rw [if_pos c132] at H
          have c132b0 : (t330 == 0) = true := beq_iff_eq.mpr c132
          have c132b1 : (t330 != 0) = false := bne_eq_false_iff_eq.mpr c132
          clear c132
          have HC133 := Aside0.mk H
          clear H
          have hnb134 := NB285_288.out
          have hnc134 := NB288_285.out
          obtain ⟨hcz135_0, hcz135_1, hfz135_0, hfz135_1⟩ := c2_ BK285.out
          go_upto_region 28 with (first | ((with_reducible refine gate_callee (f := 14) rfl ?_); refine goesL_ (some 121) rfl rfl Try.func14 (by kernel_rfl) rfl #[.agg #[.slice A0_0 l0_0.length c0_0, .slice A0_1 l0_1.length c0_1], .int .i64 x6_2, .int .i64 x7_2] rfl ga_ ?_; (with_reducible refine (withhold_Due.calls k2 _ _ l0_0 _ _ l0_1 x6_2 x7_2 t321 t322 t323 t324 t327 t330 _ ?side1 ?side2 ?side3 ?side4 A131.out).mono ?_); (case side1 => exact kc_ (Kd.C_below HR0_0.out HB.out)); (case side2 => exact HC0_0.out); (case side3 => exact kc_ (Kd.C_below HR0_1.out HB.out)); (case side4 => exact HC0_1.out); rintro e w136 ⟨v325, v328, rfl, ho0, ho1, hb⟩; refine ⟨_, rfl, ?_⟩; have HO326 := rl0_ (rn_ (rn_ (rn_ ho0 HO_9.out) HO_289003.out) HO_289004.out); have HO329 := rl0_ (rn_ (rn_ (rn_ ho1 HO_9.out) HO_289003.out) HO_289004.out); replace HO_9 := ro2_ HO_9.out hb ho0 ho1; replace HO_289003 := ro2_ HO_289003.out hb ho0 ho1; replace HO_289004 := ro2_ HO_289004.out hb ho0 ho1; replace BK285 := bb_ BK285.out hb; replace BK288 := bb_ BK288.out hb; replace HB := hs_ hb; (try clear hb); (try clear hb2); (try clear hk); (try clear hi); (try clear ho0); (try clear ho1)) | ((with_reducible refine gate_dst (N := 18) rfl ?_); (try (refine gate_guard (by rfl) ?_; dsimp only)); refine bx_ 18 #[.int .i64 0, .int .i64 0, .int .i64 0, .slice none 0 0, .slice none 0 0] 30 ?_; intro gb331 hg w137 hbox hb; have BK331 := Aside0.mk hbox; have GW331 := gs_ hg; have GE331 := gs_ hg; have NB285_331 := nl_ hg BK285.out; have NB331_285 := ng_ hg BK285.out; have NB288_331 := nl_ hg BK288.out; have NB331_288 := ng_ hg BK288.out; replace HO_9 := rl_ HO_9.out hb; replace HO_289003 := rl_ HO_289003.out hb; replace HO_289004 := rl_ HO_289004.out hb; replace HO326 := rl_ HO326.out hb; replace HO329 := rl_ HO329.out hb; replace BK285 := bb_ BK285.out hb; replace BK288 := bb_ BK288.out hb; replace HB := hs_ hb; clear hb hbox hg; have hnb138 := NB331_285.out; have hnc138 := NB285_331.out; have hnb139 := NB331_288.out; have hnc139 := NB288_331.out; obtain ⟨hcz140_0, hcz140_1, hcz140_2, hcz140_3, hcz140_4, hfz140_0, hfz140_1, hfz140_2, hfz140_3, hfz140_4⟩ := c5_ BK331.out; obtain ⟨Ao141, co141, eo141⟩ := Kd.R_slice HO326.out; subst eo141; obtain ⟨Ao142, co142, eo142⟩ := Kd.R_slice HO329.out; subst eo142))
          (try simp only [Act.put, List.setIfInBounds_toArray, List.set_cons_zero, List.set_cons_succ])
          go_cut [143] (fun v143 wc => ∃ (kq : Nat) (x143_132 : Bool), v143 = .bool x143_132 ∧ Aside0 (paymasterlaw14_WithholdYear.j4 kq l1 x9_2 x143_132 x289000_2 x289001_2 x289002_2 x289003_2 x289004_2 t321 t322 t323 t324 t327 = some r) ∧ Aside0 (kq ≤ k2) ∧ Aside0 (Kd.R (Kd.int .i64) 3 wc w.heap.size (fun k_ => some k_ ≠ (u289003 : Value).ownBlock ∧ some k_ ≠ (u289004 : Value).ownBlock ∧ some k_ ≠ ((.slice Ao141 t324.length co141) : Value).ownBlock ∧ some k_ ≠ ((.slice Ao142 t327.length co142) : Value).ownBlock) v290 x9_2) ∧ Aside0 (Kd.R (Kd.int .i64) 3 wc w.heap.size (fun k_ => some k_ ≠ (v290 : Value).ownBlock ∧ some k_ ≠ (u289004 : Value).ownBlock ∧ some k_ ≠ ((.slice Ao141 t324.length co141) : Value).ownBlock ∧ some k_ ≠ ((.slice Ao142 t327.length co142) : Value).ownBlock) u289003 x289003_2) ∧ Aside0 (Kd.R (Kd.int .i64) 3 wc w.heap.size (fun k_ => some k_ ≠ (v290 : Value).ownBlock ∧ some k_ ≠ (u289003 : Value).ownBlock ∧ some k_ ≠ ((.slice Ao141 t324.length co141) : Value).ownBlock ∧ some k_ ≠ ((.slice Ao142 t327.length co142) : Value).ownBlock) u289004 x289004_2) ∧ Aside0 (Kd.R (Kd.int .i64) 3 wc w.heap.size (fun k_ => some k_ ≠ (v290 : Value).ownBlock ∧ some k_ ≠ (u289003 : Value).ownBlock ∧ some k_ ≠ (u289004 : Value).ownBlock ∧ some k_ ≠ ((.slice Ao142 t327.length co142) : Value).ownBlock) (.slice Ao141 t324.length co141) t324) ∧ Aside0 (Kd.R (Kd.int .i64) 3 wc w.heap.size (fun k_ => some k_ ≠ (v290 : Value).ownBlock ∧ some k_ ≠ (u289003 : Value).ownBlock ∧ some k_ ≠ (u289004 : Value).ownBlock ∧ some k_ ≠ ((.slice Ao141 t324.length co141) : Value).ownBlock) (.slice Ao142 t327.length co142) t327) ∧ Aside0 (wc.heap[gb285]? = some (.cells #[(.slice A0_0 l0_0.length c0_0), (.slice A0_1 l0_1.length c0_1)] 25 (0, 0))) ∧ Aside0 (wc.heap[gb288]? = some (.cells #[.int .i64 x289000_2, .int .i64 x289001_2, .int .i64 x289002_2, u289003, u289004] 30 (0, 0))) ∧ Aside0 (wc.heap[gb331]? = some (.cells #[.int .i64 t321, .int .i64 t322, .int .i64 t323, (.slice Ao141 t324.length co141), (.slice Ao142 t327.length co142)] 30 (0, 0))) ∧ Aside0 (Below w.heap.size w wc))
          case first =>
           have H := HC133.out
           clear HC133
           by_cases c143 : (t324.length : Int) = (x9_2.length : Int)
           ·rw [if_pos c143] at H
            have c143b0 : ((t324.length : Int) == (x9_2.length : Int)) = true := beq_iff_eq.mpr c143
            have c143b1 : ((t324.length : Int) != (x9_2.length : Int)) = false := bne_eq_false_iff_eq.mpr c143
            have c143b2 : (t324.length == x9_2.length) = true := by first | simpa using c143 | (simp at c143 ⊢; omega)
            clear c143
            (first | rw [c143b0] | (simp only [i64_w, i32_w]; rw [c143b0]) | skip)
            have H' := Aside0.mk H
            clear H
            have hnb144 := NB331_285.out
            have hnc144 := NB285_331.out
            have hnb145 := NB331_288.out
            have hnc145 := NB288_331.out
            obtain ⟨hcz146_0, hcz146_1, hcz146_2, hcz146_3, hcz146_4, hfz146_0, hfz146_1, hfz146_2, hfz146_3, hfz146_4⟩ := c5_ BK331.out
            obtain ⟨Ao147, co147, eo147⟩ := Kd.R_slice HO_9.out
            subst eo147
            go_wp2
            go_meet
            case rel => exact ⟨_, ((t323 != x8_2)), sm_, H', ⟨by have := HJ2.out; have := HK2.out; first | omega | exact Nat.le_refl _⟩, ⟨rs_ (ty_ HO_9.out BK331.out)⟩, ⟨rs_ (ty_ HO_289003.out BK331.out)⟩, ⟨rs_ (ty_ HO_289004.out BK331.out)⟩, ⟨rs_ (ty_ HO326.out BK331.out)⟩, ⟨rs_ (ty_ HO329.out BK331.out)⟩, ⟨bf_ BK285.out⟩, ⟨bf_ BK288.out⟩, ⟨bp_ BK331.out⟩, ⟨bl_⟩⟩
           ·rw [if_neg c143] at H
            have c143b0 : ((t324.length : Int) == (x9_2.length : Int)) = false := beq_eq_false_iff_ne.mpr c143
            have c143b1 : ((t324.length : Int) != (x9_2.length : Int)) = true := bne_iff_ne.mpr c143
            have c143b2 : (t324.length == x9_2.length) = false := by first | simpa using c143 | (simp at c143 ⊢; omega)
            (first | rw [c143b0] | (simp only [i64_w, i32_w]; rw [c143b0]) | skip)
            have H' := Aside0.mk H
            clear H
            have hnb148 := NB331_285.out
            have hnc148 := NB285_331.out
            have hnb149 := NB331_288.out
            have hnc149 := NB288_331.out
            obtain ⟨hcz150_0, hcz150_1, hcz150_2, hcz150_3, hcz150_4, hfz150_0, hfz150_1, hfz150_2, hfz150_3, hfz150_4⟩ := c5_ BK331.out
            obtain ⟨Ao151, co151, eo151⟩ := Kd.R_slice HO_9.out
            subst eo151
            go_wp2
            go_meet
            case rel => exact ⟨_, (true), sm_, H', ⟨by have := HJ2.out; have := HK2.out; first | omega | exact Nat.le_refl _⟩, ⟨rs_ (ty_ HO_9.out BK331.out)⟩, ⟨rs_ (ty_ HO_289003.out BK331.out)⟩, ⟨rs_ (ty_ HO_289004.out BK331.out)⟩, ⟨rs_ (ty_ HO326.out BK331.out)⟩, ⟨rs_ (ty_ HO329.out BK331.out)⟩, ⟨bf_ BK285.out⟩, ⟨bf_ BK288.out⟩, ⟨bp_ BK331.out⟩, ⟨bl_⟩⟩
          case rest =>
           clear HC133
           try clear c1; try clear c11; try clear c14; try clear c21; try clear c21b0; try clear c132; try clear c132b0; try clear c132b1; try clear hcz135_0; try clear hcz135_1; try clear hcz140_0; try clear hcz140_1; try clear hcz140_2; try clear hcz140_3; try clear hcz140_4; try clear hfz135_0; try clear hfz135_1; try clear hfz140_0; try clear hfz140_1; try clear hfz140_2; try clear hfz140_3; try clear hfz140_4
           try clear hfz18_0; try clear hfz18_1
           obtain ⟨kq, x143_132, rfl, HA, HJ132, HO_9, HO_289003, HO_289004, HO_332003, HO_332004, BK285, BK288, BK331, HB⟩ := hcut
           cases kq with
           | zero => exact absurd HA.out (by simp [paymasterlaw14_WithholdYear.j4])
           | succ kj132 =>
            have H := HA.out
            clear HA
            simp only [paymasterlaw14_WithholdYear.j4] at H
            by_cases c152 : x143_132 = true
            ·subst c152
             rw [if_pos rfl] at H
             exact absurd H (by simp)
            ·replace c152 := Bool.eq_false_iff.mpr c152
             subst c152
             rw [if_neg (show ¬ (false = true) by decide)] at H
             have H' := Aside0.mk H
             clear H
             obtain ⟨Ao153, co153, eo153⟩ := Kd.R_slice HO_9.out
             subst eo153
             go_wp2
             go_loopg [146] kj132 (fun kq v146 w' => ∃ (x146_4 : Int), v146 = .int .i64 x146_4 ∧ Aside0 (paymasterlaw14_WithholdYear.l2 kq l1 x9_2 (x9_2.length : Int) x146_4 x289000_2 x289001_2 x289002_2 x289003_2 x289004_2 t321 t322 t323 t324 t327 = some r) ∧ Aside0 (kq ≤ kj132) ∧ Aside0 (Kd.R (Kd.int .i64) 3 w' w.heap.size (fun k_ => some k_ ≠ (u289003 : Value).ownBlock ∧ some k_ ≠ (u289004 : Value).ownBlock ∧ some k_ ≠ ((.slice Ao141 t324.length co141) : Value).ownBlock ∧ some k_ ≠ ((.slice Ao142 t327.length co142) : Value).ownBlock) (.slice Ao153 x9_2.length co153) x9_2) ∧ Aside0 (Kd.R (Kd.int .i64) 3 w' w.heap.size (fun k_ => some k_ ≠ ((.slice Ao153 x9_2.length co153) : Value).ownBlock ∧ some k_ ≠ (u289004 : Value).ownBlock ∧ some k_ ≠ ((.slice Ao141 t324.length co141) : Value).ownBlock ∧ some k_ ≠ ((.slice Ao142 t327.length co142) : Value).ownBlock) u289003 x289003_2) ∧ Aside0 (Kd.R (Kd.int .i64) 3 w' w.heap.size (fun k_ => some k_ ≠ ((.slice Ao153 x9_2.length co153) : Value).ownBlock ∧ some k_ ≠ (u289003 : Value).ownBlock ∧ some k_ ≠ ((.slice Ao141 t324.length co141) : Value).ownBlock ∧ some k_ ≠ ((.slice Ao142 t327.length co142) : Value).ownBlock) u289004 x289004_2) ∧ Aside0 (Kd.R (Kd.int .i64) 3 w' w.heap.size (fun k_ => some k_ ≠ ((.slice Ao153 x9_2.length co153) : Value).ownBlock ∧ some k_ ≠ (u289003 : Value).ownBlock ∧ some k_ ≠ (u289004 : Value).ownBlock ∧ some k_ ≠ ((.slice Ao142 t327.length co142) : Value).ownBlock) (.slice Ao141 t324.length co141) t324) ∧ Aside0 (Kd.R (Kd.int .i64) 3 w' w.heap.size (fun k_ => some k_ ≠ ((.slice Ao153 x9_2.length co153) : Value).ownBlock ∧ some k_ ≠ (u289003 : Value).ownBlock ∧ some k_ ≠ (u289004 : Value).ownBlock ∧ some k_ ≠ ((.slice Ao141 t324.length co141) : Value).ownBlock) (.slice Ao142 t327.length co142) t327) ∧ Aside0 (w'.heap[gb285]? = some (.cells #[(.slice A0_0 l0_0.length c0_0), (.slice A0_1 l0_1.length c0_1)] 25 (0, 0))) ∧ Aside0 (w'.heap[gb288]? = some (.cells #[.int .i64 x289000_2, .int .i64 x289001_2, .int .i64 x289002_2, u289003, u289004] 30 (0, 0))) ∧ Aside0 (w'.heap[gb331]? = some (.cells #[.int .i64 t321, .int .i64 t322, .int .i64 t323, (.slice Ao141 t324.length co141), (.slice Ao142 t327.length co142)] 30 (0, 0))) ∧ Aside0 (Below w.heap.size w w'))
             case atStart => exact ⟨(0), sm_, H', ⟨Nat.le_refl _⟩, ⟨rs_ HO_9.out⟩, ⟨rs_ HO_289003.out⟩, ⟨rs_ HO_289004.out⟩, ⟨rs_ HO_332003.out⟩, ⟨rs_ HO_332004.out⟩, ⟨bq_ BK285.out⟩, ⟨bq_ BK288.out⟩, ⟨bq_ BK331.out⟩, ⟨bl_⟩⟩
             case round =>
              clear H'
              try clear c1; try clear c11; try clear c14; try clear c15; try clear c21; try clear c21b0; try clear c132; try clear c132b0; try clear c132b1; try clear c152; try clear hcz135_0; try clear hcz135_1; try clear hcz140_0; try clear hcz140_1; try clear hcz140_2; try clear hcz140_3; try clear hcz140_4; try clear hfz135_0; try clear hfz135_1; try clear hfz140_0; try clear hfz140_1; try clear hfz140_2
              try clear hfz140_3; try clear hfz140_4; try clear hfz18_0; try clear hfz18_1
              obtain ⟨x146_4, rfl, HA, HK4, HO_9, HO_289003, HO_289004, HO_332003, HO_332004, BK285, BK288, BK331, HB⟩ := hrel
              cases gk with
              | zero => exact absurd HA.out (by simp [paymasterlaw14_WithholdYear.l2])
              | succ k4 =>
               have H := HA.out
               clear HA
               simp only [paymasterlaw14_WithholdYear.l2] at H
               by_cases c154 : x146_4 < (x9_2.length : Int)
               ·rw [if_pos c154] at H
                have c154b0 : decide (x146_4 < (x9_2.length : Int)) = true := decide_eq_true c154
                clear c154
                by_cases c155 : 0 ≤ x146_4
                ·rw [if_pos c155] at H
                 have c155b0 : decide (0 ≤ x146_4) = true := decide_eq_true c155
                 clear c155
                 by_cases c156 : x146_4 < (t324.length : Int)
                 ·rw [if_pos c156] at H
                  have c156b0 : decide (x146_4 < (t324.length : Int)) = true := decide_eq_true c156
                  clear c156
                  by_cases c157 : x146_4 < (x9_2.length : Int)
                  ·rw [if_pos c157] at H
                   have c157b0 : decide (x146_4 < (x9_2.length : Int)) = true := decide_eq_true c157
                   clear c157
                   by_cases c158 : (rd t324 x146_4) = (rd x9_2 x146_4)
                   ·rw [if_pos c158] at H
                    have c158b0 : ((rd t324 x146_4) == (rd x9_2 x146_4)) = true := beq_iff_eq.mpr c158
                    have c158b1 : ((rd t324 x146_4) != (rd x9_2 x146_4)) = false := bne_eq_false_iff_eq.mpr c158
                    clear c158
                    have H' := Aside0.mk H
                    clear H
                    try go_wp2
                    replace HO_9 := Aside0.mk (Kd.R_drew HO_9.out)
                    replace HO_289003 := Aside0.mk (Kd.R_drew HO_289003.out)
                    replace HO_289004 := Aside0.mk (Kd.R_drew HO_289004.out)
                    replace HO_332003 := Aside0.mk (Kd.R_drew HO_332003.out)
                    replace HO_332004 := Aside0.mk (Kd.R_drew HO_332004.out)
                    replace BK285 := Aside0.mk (blk_drew BK285.out)
                    replace BK288 := Aside0.mk (blk_drew BK288.out)
                    replace BK331 := Aside0.mk (blk_drew BK331.out)
                    replace HB := Aside0.mk (below_drew1 HB.out)
                    have p333 : 0 ≤ (x146_4 : Int) := od_
                    have q333 : x146_4 < (t324.length : Int) := od_
                    obtain ⟨ad333, e333, hx333_0⟩ := Kd.at_int (Kd.R_reads' HO_332003.out).2.2 x146_4 p333 q333
                    cases e333
                    replace p333 := eq_true p333
                    replace q333 := eq_true q333
                    have p334 : 0 ≤ (x146_4 : Int) := od_
                    have q334 : x146_4 < (x9_2.length : Int) := od_
                    obtain ⟨ad334, e334, hx334_0⟩ := Kd.at_int (Kd.R_reads' HO_9.out).2.2 x146_4 p334 q334
                    cases e334
                    replace p334 := eq_true p334
                    replace q334 := eq_true q334
                    refine start_ (n := 10) (S := fun w' => w'.cell? ⟨gb331, 0, none⟩ = some (.int .i64 t321) ∧ w'.cell? ⟨gb331, 1, none⟩ = some (.int .i64 t322) ∧ w'.cell? ⟨gb331, 2, none⟩ = some (.int .i64 t323) ∧ w'.cell? ⟨gb331, 3, none⟩ = some (.slice (some ad333) t324.length co141) ∧ w'.cell? ⟨gb331, 4, none⟩ = some (.slice Ao142 t327.length co142) ∧ w'.cell? (ad333.add (x146_4).toNat) = some (.int .i64 (rd t324 x146_4)) ∧ w'.cell? (ad334.add (x146_4).toNat) = some (.int .i64 (rd x9_2 x146_4))) (ds := []) #[false, false, false, false, false, false, false, false, false, false] (by kernel_rfl) rfl rfl ⟨(blk_cell BK331.out 0).trans rfl, (blk_cell BK331.out 1).trans rfl, (blk_cell BK331.out 2).trans rfl, (blk_cell BK331.out 3).trans rfl, (blk_cell BK331.out 4).trans rfl, hx333_0, hx334_0⟩ (fun hHeld => ?_); refine with_tabW paymasterlaw14_WithholdYear.tab33 paymasterlaw14_WithholdYear.bits33 (fun HT_ HW_ => ?_)
                    generalize wr.drew = w159 at HO_9 HO_289003 HO_289004 HO_332003 HO_332004 BK285 BK288 BK331 HB hx333_0 hx334_0 hHeld ⊢
                    refine pure_ (i := 0) (N := some 149) (v := ?_) (a' := ?_) #[true, false, false, false, false, false, false, false, false, false] rfl rfl (any_of HT_.out (by kernel_rfl)) (fun _ _ _ h => h) (Or.inl ⟨by rfl, ?_⟩) ?_ ?_
                    rotate_left
                    ·intro w'
                     go_simp
                     with_reducible rfl
                    rotate_left
                    ·simp only [Act.put, List.setIfInBounds_toArray, List.set_cons_zero, List.set_cons_succ, i64_w, i32_w]
                     rfl
                    refine pure_ (i := 2) (N := some 151) (v := ?_) (a' := ?_) #[true, false, true, false, false, false, false, false, false, false] rfl rfl (any_of HT_.out (by kernel_rfl)) (fun _ _ _ h => h) (Or.inl ⟨by rfl, ?_⟩) ?_ ?_
                    rotate_left
                    ·intro w'
                     go_simp
                     with_reducible rfl
                    rotate_left
                    ·simp only [Act.put, List.setIfInBounds_toArray, List.set_cons_zero, List.set_cons_succ, i64_w, i32_w]
                     rfl
                    refine pure_ (i := 5) (N := some 154) (v := ?_) (a' := ?_) #[true, false, true, false, false, true, false, false, false, false] rfl rfl (any_of HT_.out (by kernel_rfl)) (fun _ _ _ h => h) (Or.inl ⟨by rfl, ?_⟩) ?_ ?_
                    rotate_left
                    ·intro w'
                     go_simp
                     with_reducible rfl
                    rotate_left
                    ·simp only [Act.put, List.setIfInBounds_toArray, List.set_cons_zero, List.set_cons_succ, i64_w, i32_w]
                     rfl
                    refine pure_ (i := 6) (N := some 155) (v := ?_) (a' := ?_) #[true, false, true, false, false, true, true, false, false, false] rfl rfl (any_of HT_.out (by kernel_rfl)) (fun _ _ _ h => h) (Or.inl ⟨by rfl, ?_⟩) ?_ ?_
                    rotate_left
                    ·intro w'
                     go_simp
                     with_reducible rfl
                    rotate_left
                    ·simp only [Act.put, List.setIfInBounds_toArray, List.set_cons_zero, List.set_cons_succ, i64_w, i32_w]
                     rfl
                    refine pure_ (i := 7) (N := some 156) (v := ?_) (a' := ?_) #[true, false, true, false, false, true, true, true, false, false] rfl rfl (any_of HT_.out (by kernel_rfl)) (fun _ _ _ h => h) (Or.inl ⟨by rfl, ?_⟩) ?_ ?_
                    rotate_left
                    ·intro w'
                     go_simp
                     with_reducible rfl
                    rotate_left
                    ·simp only [Act.put, List.setIfInBounds_toArray, List.set_cons_zero, List.set_cons_succ, i64_w, i32_w]
                     rfl
                    refine take_ (i := 1) (N := some 150) (v := ?_) (a' := ?_) #[true, true, true, false, false, true, true, true, false, false] rfl rfl (take_ofW HT_.out HW_.out (by kernel_rfl)) (fun _ _ _ h => h) (Or.inl ⟨by rfl, ?_⟩) hHeld ?_ ?_
                    rotate_left
                    ·rintro w' ⟨s0, s1, s2, s3, s4, s5, s6⟩
                     go_simp
                     with_reducible rfl
                    rotate_left
                    ·simp only [Act.put, List.setIfInBounds_toArray, List.set_cons_zero, List.set_cons_succ, i64_w, i32_w]
                     rfl
                    refine pure_ (i := 3) (N := some 152) (v := ?_) (a' := ?_) #[true, true, true, true, false, true, true, true, false, false] rfl rfl (any_of HT_.out (by kernel_rfl)) (fun _ _ _ h => h) (Or.inl ⟨by rfl, ?_⟩) ?_ ?_
                    rotate_left
                    ·intro w'
                     go_simp
                     with_reducible rfl
                    rotate_left
                    ·simp only [Act.put, List.setIfInBounds_toArray, List.set_cons_zero, List.set_cons_succ, i64_w, i32_w]
                     rfl
                    refine take_ (i := 4) (N := some 153) (v := ?_) (a' := ?_) #[true, true, true, true, true, true, true, true, false, false] rfl rfl (take_ofW HT_.out HW_.out (by kernel_rfl)) (fun _ _ _ h => h) (Or.inl ⟨by rfl, ?_⟩) hHeld ?_ ?_
                    rotate_left
                    ·rintro w' ⟨s0, s1, s2, s3, s4, s5, s6⟩
                     go_simp
                     with_reducible rfl
                    rotate_left
                    ·simp only [Act.put, List.setIfInBounds_toArray, List.set_cons_zero, List.set_cons_succ, i64_w, i32_w]
                     rfl
                    refine take_ (i := 8) (N := some 157) (v := ?_) (a' := ?_) #[true, true, true, true, true, true, true, true, true, false] rfl rfl (take_ofW HT_.out HW_.out (by kernel_rfl)) (fun _ _ _ h => h) (Or.inl ⟨by rfl, ?_⟩) hHeld ?_ ?_
                    rotate_left
                    ·rintro w' ⟨s0, s1, s2, s3, s4, s5, s6⟩
                     go_simp
                     with_reducible rfl
                    rotate_left
                    ·simp only [Act.put, List.setIfInBounds_toArray, List.set_cons_zero, List.set_cons_succ, i64_w, i32_w]
                     rfl
                    refine pure_ (i := 9) (N := some 158) (v := ?_) (a' := ?_) #[true, true, true, true, true, true, true, true, true, true] rfl rfl (any_of HT_.out (by kernel_rfl)) (fun _ _ _ h => h) (Or.inl ⟨by rfl, ?_⟩) ?_ ?_
                    rotate_left
                    ·intro w'
                     go_simp
                     with_reducible rfl
                    rotate_left
                    ·simp only [Act.put, List.setIfInBounds_toArray, List.set_cons_zero, List.set_cons_succ, i64_w, i32_w]
                     rfl
                    refine done_ (done_of HT_.out (by kernel_rfl)) ?_
                    try go_wp2
                    go_roundg k4
                    case measure => have := HJ2.out; have := HK2.out; have := HJ132.out; have := HK4.out; omega
                    case rel => exact ⟨(wrap64 (x146_4 + 1)), sm_, H', ⟨by have := HJ2.out; have := HK2.out; have := HJ132.out; have := HK4.out; omega⟩, ⟨rs_ HO_9.out⟩, ⟨rs_ HO_289003.out⟩, ⟨rs_ HO_289004.out⟩, ⟨rs_ HO_332003.out⟩, ⟨rs_ HO_332004.out⟩, ⟨bq_ BK285.out⟩, ⟨bq_ BK288.out⟩, ⟨bq_ BK331.out⟩, ⟨bl_⟩⟩
                   ·rw [if_neg c158] at H
                    exact absurd H (by simp)
                  ·rw [if_neg c157] at H
                   exact absurd H (by simp)
                 ·rw [if_neg c156] at H
                  exact absurd H (by simp)
                ·rw [if_neg c155] at H
                 exact absurd H (by simp)
               ·rw [if_neg c154] at H
                have c154b0 : decide (x146_4 < (x9_2.length : Int)) = false := decide_eq_false c154
                clear c154
                by_cases c160 : (l1.length : Int) = 0
                ·rw [if_pos c160] at H
                 have c160b0 : ((l1.length : Int) == 0) = true := beq_iff_eq.mpr c160
                 have c160b1 : ((l1.length : Int) != 0) = false := bne_eq_false_iff_eq.mpr c160
                 clear c160
                 replace H := Option.bind_eq_some_iff.mp H
                 obtain ⟨t335, A1610, H⟩ := H
                 (try dsimp only at H)
                 have A161 := Aside0.mk A1610
                 clear A1610
                 obtain rfl := Option.some.inj H
                 go_wp2_with (first | (go_at_call 10; (with_reducible refine (paymasterlaw14_awake.calls k4  t335 _ A161.out).mono ?_); rintro e w162 ⟨rfl, hb⟩; replace HO_9 := rl_ HO_9.out hb; replace HO_289003 := rl_ HO_289003.out hb; replace HO_289004 := rl_ HO_289004.out hb; replace HO_332003 := rl_ HO_332003.out hb; replace HO_332004 := rl_ HO_332004.out hb; replace BK285 := bb_ BK285.out hb; replace BK288 := bb_ BK288.out hb; replace BK331 := bb_ BK331.out hb; replace HB := hs_ hb; (try clear hb); (try clear hb2); (try clear hk); (try clear hi)))
                 go_ret
                 exact ⟨se_, bl_⟩
                ·rw [if_neg c160] at H
                 have c160b0 : ((l1.length : Int) == 0) = false := beq_eq_false_iff_ne.mpr c160
                 have c160b1 : ((l1.length : Int) != 0) = true := bne_iff_ne.mpr c160
                 have c160b2 : ¬ (l1 = []) := fun h_ => c160 (by rw [h_]; rfl)
                 replace H := Option.bind_eq_some_iff.mp H
                 obtain ⟨t336, A1630, H⟩ := H
                 (try dsimp only at H)
                 have A163 := Aside0.mk A1630
                 clear A1630
                 by_cases c164 : t336 = true
                 ·subst c164
                  rw [if_pos rfl] at H
                  replace H := Option.bind_eq_some_iff.mp H
                  obtain ⟨t337, A1650, H⟩ := H
                  (try dsimp only at H)
                  have A165 := Aside0.mk A1650
                  clear A1650
                  obtain rfl := Option.some.inj H
                  have hnb166 := NB331_285.out
                  have hnc166 := NB285_331.out
                  have hnb167 := NB331_288.out
                  have hnc167 := NB288_331.out
                  obtain ⟨hcz168_0, hcz168_1, hcz168_2, hcz168_3, hcz168_4, hfz168_0, hfz168_1, hfz168_2, hfz168_3, hfz168_4⟩ := c5_ BK331.out
                  have hnb169 := NB288_285.out
                  have hnc169 := NB285_288.out
                  obtain ⟨hcz170_0, hcz170_1, hcz170_2, hcz170_3, hcz170_4, hfz170_0, hfz170_1, hfz170_2, hfz170_3, hfz170_4⟩ := c5_ BK288.out
                  obtain ⟨Ao171, co171, eo171⟩ := Kd.R_slice HO_289003.out
                  subst eo171
                  obtain ⟨Ao172, co172, eo172⟩ := Kd.R_slice HO_289004.out
                  subst eo172
                  go_wp2_with (first | (go_at_call 13; (with_reducible refine (paymasterref14_Same.calls k4 t321 t322 t323 _ _ t324 _ _ t327 x289000_2 x289001_2 x289002_2 _ _ x289003_2 _ _ x289004_2 true _ ?side1 ?side2 ?side3 ?side4 ?side5 ?side6 ?side7 ?side8 A163.out).mono ?_); (case side1 => exact kc_ (Kd.R_reads' HO_332003.out).2.2); (case side2 => exact (Kd.R_reads' HO_332003.out).2.1); (case side3 => exact kc_ (Kd.R_reads' HO_332004.out).2.2); (case side4 => exact (Kd.R_reads' HO_332004.out).2.1); (case side5 => exact kc_ (Kd.R_reads' HO_289003.out).2.2); (case side6 => exact (Kd.R_reads' HO_289003.out).2.1); (case side7 => exact kc_ (Kd.R_reads' HO_289004.out).2.2); (case side8 => exact (Kd.R_reads' HO_289004.out).2.1); rintro e w173 ⟨rfl, hb⟩; replace HO_9 := rl_ HO_9.out hb; replace HO_289003 := rl_ HO_289003.out hb; replace HO_289004 := rl_ HO_289004.out hb; replace HO_332003 := rl_ HO_332003.out hb; replace HO_332004 := rl_ HO_332004.out hb; replace BK285 := bb_ BK285.out hb; replace BK288 := bb_ BK288.out hb; replace BK331 := bb_ BK331.out hb; replace HB := hs_ hb; (try clear hb); (try clear hb2); (try clear hk); (try clear hi)) | (go_at_call 10; (with_reducible refine (paymasterlaw14_awake.calls k4  t337 _ A165.out).mono ?_); rintro e w174 ⟨rfl, hb⟩; replace HO_9 := rl_ HO_9.out hb; replace HO_289003 := rl_ HO_289003.out hb; replace HO_289004 := rl_ HO_289004.out hb; replace HO_332003 := rl_ HO_332003.out hb; replace HO_332004 := rl_ HO_332004.out hb; replace BK285 := bb_ BK285.out hb; replace BK288 := bb_ BK288.out hb; replace BK331 := bb_ BK331.out hb; replace HB := hs_ hb; (try clear hb); (try clear hb2); (try clear hk); (try clear hi)))
                  go_ret
                  exact ⟨se_, bl_⟩
                 ·replace c164 := Bool.eq_false_iff.mpr c164
                  subst c164
                  rw [if_neg (show ¬ (false = true) by decide)] at H
                  exact absurd H (by simp)
         ·rw [if_neg c132] at H
          have c132b0 : (t330 == 0) = false := beq_eq_false_iff_ne.mpr c132
          have c132b1 : (t330 != 0) = true := bne_iff_ne.mpr c132
          by_cases c175 : (l1.length : Int) = 0
          ·rw [if_pos c175] at H
           have c175b0 : ((l1.length : Int) == 0) = true := beq_iff_eq.mpr c175
           have c175b1 : ((l1.length : Int) != 0) = false := bne_eq_false_iff_eq.mpr c175
           clear c175
           replace H := Option.bind_eq_some_iff.mp H
           obtain ⟨t332, A1760, H⟩ := H
           (try dsimp only at H)
           have A176 := Aside0.mk A1760
           clear A1760
           obtain rfl := Option.some.inj H
           have hnb177 := NB285_288.out
           have hnc177 := NB288_285.out
           obtain ⟨hcz178_0, hcz178_1, hfz178_0, hfz178_1⟩ := c2_ BK285.out
           go_wp2_with (first | ((with_reducible refine gate_callee (f := 14) rfl ?_); refine goesL_ (some 121) rfl rfl Try.func14 (by kernel_rfl) rfl #[.agg #[.slice A0_0 l0_0.length c0_0, .slice A0_1 l0_1.length c0_1], .int .i64 x6_2, .int .i64 x7_2] rfl ga_ ?_; (with_reducible refine (withhold_Due.calls k2 _ _ l0_0 _ _ l0_1 x6_2 x7_2 t321 t322 t323 t324 t327 t330 _ ?side1 ?side2 ?side3 ?side4 A131.out).mono ?_); (case side1 => exact kc_ (Kd.C_below HR0_0.out HB.out)); (case side2 => exact HC0_0.out); (case side3 => exact kc_ (Kd.C_below HR0_1.out HB.out)); (case side4 => exact HC0_1.out); rintro e w179 ⟨v325, v328, rfl, ho0, ho1, hb⟩; refine ⟨_, rfl, ?_⟩; have HO326 := rl0_ (rn_ (rn_ (rn_ ho0 HO_9.out) HO_289003.out) HO_289004.out); have HO329 := rl0_ (rn_ (rn_ (rn_ ho1 HO_9.out) HO_289003.out) HO_289004.out); replace HO_9 := ro2_ HO_9.out hb ho0 ho1; replace HO_289003 := ro2_ HO_289003.out hb ho0 ho1; replace HO_289004 := ro2_ HO_289004.out hb ho0 ho1; replace BK285 := bb_ BK285.out hb; replace BK288 := bb_ BK288.out hb; replace HB := hs_ hb; (try clear hb); (try clear hb2); (try clear hk); (try clear hi); (try clear ho0); (try clear ho1)) | ((with_reducible refine gate_dst (N := 18) rfl ?_); (try (refine gate_guard (by rfl) ?_; dsimp only)); refine bx_ 18 #[.int .i64 0, .int .i64 0, .int .i64 0, .slice none 0 0, .slice none 0 0] 30 ?_; intro gb331 hg w180 hbox hb; have BK331 := Aside0.mk hbox; have GW331 := gs_ hg; have GE331 := gs_ hg; have NB285_331 := nl_ hg BK285.out; have NB331_285 := ng_ hg BK285.out; have NB288_331 := nl_ hg BK288.out; have NB331_288 := ng_ hg BK288.out; replace HO_9 := rl_ HO_9.out hb; replace HO_289003 := rl_ HO_289003.out hb; replace HO_289004 := rl_ HO_289004.out hb; replace HO326 := rl_ HO326.out hb; replace HO329 := rl_ HO329.out hb; replace BK285 := bb_ BK285.out hb; replace BK288 := bb_ BK288.out hb; replace HB := hs_ hb; clear hb hbox hg; have hnb181 := NB331_285.out; have hnc181 := NB285_331.out; have hnb182 := NB331_288.out; have hnc182 := NB288_331.out; obtain ⟨hcz183_0, hcz183_1, hcz183_2, hcz183_3, hcz183_4, hfz183_0, hfz183_1, hfz183_2, hfz183_3, hfz183_4⟩ := c5_ BK331.out; obtain ⟨Ao184, co184, eo184⟩ := Kd.R_slice HO326.out; subst eo184; obtain ⟨Ao185, co185, eo185⟩ := Kd.R_slice HO329.out; subst eo185) | (go_at_call 10; (with_reducible refine (paymasterlaw14_awake.calls k2  t332 _ A176.out).mono ?_); rintro e w186 ⟨rfl, hb⟩; replace HO_9 := rb2_ (ty_ HO_9.out BK331.out) hb; replace HO_289003 := rb2_ (ty_ HO_289003.out BK331.out) hb; replace HO_289004 := rb2_ (ty_ HO_289004.out BK331.out) hb; replace HO326 := rb2_ (ty_ HO326.out BK331.out) hb; replace HO329 := rb2_ (ty_ HO329.out BK331.out) hb; replace BK285 := bb_ BK285.out hb; replace BK288 := bb_ BK288.out hb; replace BK331 := Aside0.mk (blk_below (g := gb331) (o := .cells #[.int .i64 t321, .int .i64 t322, .int .i64 t323, .slice Ao184 t324.length co184, .slice Ao185 t327.length co185] 30 (0, 0)) (bp_ BK331.out) hb); replace HB := hs_ hb; (try clear hb); (try clear hb2); (try clear hk); (try clear hi)))
           go_ret
           exact ⟨se_, bl_⟩
          ·rw [if_neg c175] at H
           exact absurd H (by simp)
     ·rw [if_neg c15] at H
      exact absurd H (by simp)
    ·rw [if_neg c14] at H
     exact absurd H (by simp)

end Go.Proofs.Ytocaneaofdbpoaa.PA
