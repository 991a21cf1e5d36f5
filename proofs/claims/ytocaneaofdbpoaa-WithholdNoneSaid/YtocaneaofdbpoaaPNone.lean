/- Contracts of the functions of the given program: written by wip/pmprint.py, a program of this session, which runs the print of the kit over altered functions. -/
import Derived.Test.YtocaneaofdbpoaaPAx0
import Derived.Test.YtocaneaofdbpoaaPAx1
import Derived.Test.YtocaneaofdbpoaaPAx7
import Derived.Test.YtocaneaofdbpoaaPAx8
import Derived.Test.YtocaneaofdbpoaaPAx10
namespace Go.Proofs.Ytocaneaofdbpoaa.PA
open Go.RowKit Go.Proofs.YtocaneaofdbpoaaW.PrintWords Go.Proofs.YtocaneaofdbpoaaW.PrintLast Go.Proofs.YtocaneaofdbpoaaW.PrintMore
attribute [local go_sem] max2_int min2_int max_two min_two max_three min_three max_four min_four   -- for this text's walks alone
set_option linter.unusedVariables false
set_option linter.unusedSimpArgs false

/-! ### paymasterlaw14_WithholdNone: function 3 -/
mutual
def paymasterlaw14_WithholdNone.j0 : Nat → Bool → Int → Int → Int → List Int → List Int → Int → Int → Int → List Int → List Int → Int → Int → Int → List Int → List Int → Int → Int → Int → List Int → List Int → Option (Bool)
  | 0, _, _, _, _, _, _, _, _, _, _, _, _, _, _, _, _, _, _, _, _, _ => none
  | k + 1, x92, x308000, x308001, x308002, x308003, x308004, x331000, x331001, x331002, x331003, x331004, x332000, x332001, x332002, x332003, x332004, x352000, x352001, x352002, x352003, x352004 => if x92 = true then (none) else ((some (([] : List Int) : List Int)).bind fun y353 => (if y353.length + x332003.length < 17592186044416 then ((some (y353 ++ x332003 : List Int)).bind fun y356 => (if y356.length + x332004.length < 17592186044416 then ((some (y356 ++ x332004 : List Int)).bind fun y359 => ((some (([] : List Int) : List Int)).bind fun y362 => (if y362.length + x352003.length < 17592186044416 then ((some (y362 ++ x352003 : List Int)).bind fun y365 => (if y365.length + x352004.length < 17592186044416 then ((some (y365 ++ x352004 : List Int)).bind fun y368 => (if y359.length + y368.length < 17592186044416 then ((some (y359 ++ y368 : List Int)).bind fun y371 => (paymasterlaw14_WithholdNone.l0 k y371 (y371.length : Int) 0 x308000 x308001 x308002 x308003 x308004 x331000 x331001 x331002 x331003 x331004)) else (none))) else (none))) else (none)))) else (none))) else (none)))
def paymasterlaw14_WithholdNone.l0 : Nat → List Int → Int → Int → Int → Int → Int → List Int → List Int → Int → Int → Int → List Int → List Int → Option (Bool)
  | 0, _, _, _, _, _, _, _, _, _, _, _, _, _ => none
  | k + 1, x107, x108, x109, x308000, x308001, x308002, x308003, x308004, x331000, x331001, x331002, x331003, x331004 => if x109 < x108 then (if 0 ≤ x109 then (if x109 < (x107.length : Int) then (if (rd x107 x109) = 0 then (paymasterlaw14_WithholdNone.l0 k x107 x108 (wrap64 (x109 + 1)) x308000 x308001 x308002 x308003 x308004 x331000 x331001 x331002 x331003 x331004) else (none)) else (none)) else (none)) else ((paymasterref14_Same.f k x308000 x308001 x308002 x308003 x308004 x331000 x331001 x331002 x331003 x331004).bind fun t375 => (if t375 = true then ((paymasterlaw14_awake.f k).bind fun t376 => (some t376)) else (none)))
end
def paymasterlaw14_WithholdNone.f (k : Nat) (l0_0 : List (S58)) (l0_1 : List (S41)) (a1 : Int) (a2 : Int) : Option (Bool) := (paymasterlaw14_small.f l0_0 l0_1).bind fun t286 => (if t286 = true then ((withhold_Step.f k l0_0 l0_1 0 0 0 ([] : List Int) ([] : List Int) (Int.tmod a1 1099511627776) (Int.tmod a2 1099511627776)).bind fun bt288 => (if bt288.2.2.2.2.2.2.2.2.2.2 = 0 then ((withhold_Step.f k l0_0 l0_1 bt288.1 bt288.2.1 bt288.2.2.1 bt288.2.2.2.1 bt288.2.2.2.2.1 0 0).bind fun bt311 => ((withhold_Step.f k l0_0 l0_1 bt288.1 bt288.2.1 bt288.2.2.1 bt288.2.2.2.1 bt288.2.2.2.2.1 (wrap64 (-(Int.tmod a1 1099511627776))) (wrap64 (-(Int.tmod a2 1099511627776)))).bind fun bt332 => (if bt311.2.2.2.2.2.2.2.2.2.2 = 0 then (if bt332.2.2.2.2.2.2.2.2.2.2 = 0 then (if bt311.2.2.2.2.2.2.2.1 = 0 then (if bt332.2.2.1 = 0 then (if bt332.1 = 0 then (paymasterlaw14_WithholdNone.j0 k (bt332.2.1 != 0) bt288.1 bt288.2.1 bt288.2.2.1 bt288.2.2.2.1 bt288.2.2.2.2.1 bt311.1 bt311.2.1 bt311.2.2.1 bt311.2.2.2.1 bt311.2.2.2.2.1 bt311.2.2.2.2.2.1 bt311.2.2.2.2.2.2.1 bt311.2.2.2.2.2.2.2.1 bt311.2.2.2.2.2.2.2.2.1 bt311.2.2.2.2.2.2.2.2.2.1 bt332.1 bt332.2.1 bt332.2.2.1 bt332.2.2.2.1 bt332.2.2.2.2.1) else (paymasterlaw14_WithholdNone.j0 k true bt288.1 bt288.2.1 bt288.2.2.1 bt288.2.2.2.1 bt288.2.2.2.2.1 bt311.1 bt311.2.1 bt311.2.2.1 bt311.2.2.2.1 bt311.2.2.2.2.1 bt311.2.2.2.2.2.1 bt311.2.2.2.2.2.2.1 bt311.2.2.2.2.2.2.2.1 bt311.2.2.2.2.2.2.2.2.1 bt311.2.2.2.2.2.2.2.2.2.1 bt332.1 bt332.2.1 bt332.2.2.1 bt332.2.2.2.1 bt332.2.2.2.2.1)) else (paymasterlaw14_WithholdNone.j0 k true bt288.1 bt288.2.1 bt288.2.2.1 bt288.2.2.2.1 bt288.2.2.2.2.1 bt311.1 bt311.2.1 bt311.2.2.1 bt311.2.2.2.1 bt311.2.2.2.2.1 bt311.2.2.2.2.2.1 bt311.2.2.2.2.2.2.1 bt311.2.2.2.2.2.2.2.1 bt311.2.2.2.2.2.2.2.2.1 bt311.2.2.2.2.2.2.2.2.2.1 bt332.1 bt332.2.1 bt332.2.2.1 bt332.2.2.2.1 bt332.2.2.2.2.1)) else (paymasterlaw14_WithholdNone.j0 k true bt288.1 bt288.2.1 bt288.2.2.1 bt288.2.2.2.1 bt288.2.2.2.2.1 bt311.1 bt311.2.1 bt311.2.2.1 bt311.2.2.2.1 bt311.2.2.2.2.1 bt311.2.2.2.2.2.1 bt311.2.2.2.2.2.2.1 bt311.2.2.2.2.2.2.2.1 bt311.2.2.2.2.2.2.2.2.1 bt311.2.2.2.2.2.2.2.2.2.1 bt332.1 bt332.2.1 bt332.2.2.1 bt332.2.2.2.1 bt332.2.2.2.2.1)) else (paymasterlaw14_WithholdNone.j0 k true bt288.1 bt288.2.1 bt288.2.2.1 bt288.2.2.2.1 bt288.2.2.2.2.1 bt311.1 bt311.2.1 bt311.2.2.1 bt311.2.2.2.1 bt311.2.2.2.2.1 bt311.2.2.2.2.2.1 bt311.2.2.2.2.2.2.1 bt311.2.2.2.2.2.2.2.1 bt311.2.2.2.2.2.2.2.2.1 bt311.2.2.2.2.2.2.2.2.2.1 bt332.1 bt332.2.1 bt332.2.2.1 bt332.2.2.2.1 bt332.2.2.2.2.1)) else (paymasterlaw14_WithholdNone.j0 k true bt288.1 bt288.2.1 bt288.2.2.1 bt288.2.2.2.1 bt288.2.2.2.2.1 bt311.1 bt311.2.1 bt311.2.2.1 bt311.2.2.2.1 bt311.2.2.2.2.1 bt311.2.2.2.2.2.1 bt311.2.2.2.2.2.2.1 bt311.2.2.2.2.2.2.2.1 bt311.2.2.2.2.2.2.2.2.1 bt311.2.2.2.2.2.2.2.2.2.1 bt332.1 bt332.2.1 bt332.2.2.1 bt332.2.2.2.1 bt332.2.2.2.2.1)))) else (if bt288.2.2.2.2.2.2.2.2.2.2 = 1 then ((withhold_Right.f k l0_0 l0_1).bind fun t309 => (if t309 = true then (none) else ((paymasterlaw14_awake.f k).bind fun t310 => (some t310)))) else (none)))) else ((paymasterlaw14_awake.f k).bind fun t287 => (some t287)))
def paymasterlaw14_WithholdNone.T11 : Bool × List (List Nat × List Nat) := (true, [([], []), ([], []), ([1], [1]), ([0, 2], [0, 2]), ([], []), ([4], [4]), ([3, 5, 3], [3, 5]), ([], []), ([], []), ([8], [8]), ([7, 9, 6], [7, 9]), ([], []), ([11], [11]), ([10, 12, 10], [10, 12]), ([6, 13, 13], [6, 13]), ([14], [14]), ([], [])])
def paymasterlaw14_WithholdNone.B11 : List Nat := [0, 0, 2, 7, 0, 16, 63, 0, 0, 256, 1023, 0, 2048, 8191, 16383, 32767, 0]
theorem paymasterlaw14_WithholdNone.tab11 : rtab .any (opsOf Try.f3 11) = paymasterlaw14_WithholdNone.T11 := by kernel_rfl
theorem paymasterlaw14_WithholdNone.bits11 : waitsOk paymasterlaw14_WithholdNone.T11.2 paymasterlaw14_WithholdNone.B11 = true := by kernel_rfl
set_option maxHeartbeats 8000000 in
set_option maxRecDepth 100000 in
theorem paymasterlaw14_WithholdNone.calls (k : Nat) (A0_0 : Option Addr) (c0_0 : Nat) (l0_0 : List (S58)) (A0_1 : Option Addr) (c0_1 : Nat) (l0_1 : List (S41)) (a1 : Int) (a2 : Int) (r : Bool) (w : World) (hr0_0 : Kd.C k58 w A0_0 l0_0.length l0_0) (hc0_0 : l0_0.length ≤ c0_0) (hr0_1 : Kd.C k41 w A0_1 l0_1.length l0_1) (hc0_1 : l0_1.length ≤ c0_1) (h : paymasterlaw14_WithholdNone.f k l0_0 l0_1 a1 a2 = some r) :
    Calls Try.prog 3 #[.agg #[.slice A0_0 l0_0.length c0_0, .slice A0_1 l0_1.length c0_1], .int .i64 a1, .int .i64 a2] w fun e w' => e = .returned (.bool r) ∧ Below w.heap.size w w' := by
 have hu25 := Try.underlying25
 have hu30 := Try.underlying30
 have HR0_0 := Aside0.mk hr0_0
 have HC0_0 := Aside0.mk hc0_0
 clear hr0_0 hc0_0
 have HR0_1 := Aside0.mk hr0_1
 have HC0_1 := Aside0.mk hc0_1
 clear hr0_1 hc0_1
 have HB := Aside0.mk (Below.refl w.heap.size w)
 have H : ((paymasterlaw14_small.f l0_0 l0_1).bind fun t286 => (if t286 = true then ((withhold_Step.f k l0_0 l0_1 0 0 0 ([] : List Int) ([] : List Int) (Int.tmod a1 1099511627776) (Int.tmod a2 1099511627776)).bind fun bt288 => (if bt288.2.2.2.2.2.2.2.2.2.2 = 0 then ((withhold_Step.f k l0_0 l0_1 bt288.1 bt288.2.1 bt288.2.2.1 bt288.2.2.2.1 bt288.2.2.2.2.1 0 0).bind fun bt311 => ((withhold_Step.f k l0_0 l0_1 bt288.1 bt288.2.1 bt288.2.2.1 bt288.2.2.2.1 bt288.2.2.2.2.1 (wrap64 (-(Int.tmod a1 1099511627776))) (wrap64 (-(Int.tmod a2 1099511627776)))).bind fun bt332 => (if bt311.2.2.2.2.2.2.2.2.2.2 = 0 then (if bt332.2.2.2.2.2.2.2.2.2.2 = 0 then (if bt311.2.2.2.2.2.2.2.1 = 0 then (if bt332.2.2.1 = 0 then (if bt332.1 = 0 then (paymasterlaw14_WithholdNone.j0 k (bt332.2.1 != 0) bt288.1 bt288.2.1 bt288.2.2.1 bt288.2.2.2.1 bt288.2.2.2.2.1 bt311.1 bt311.2.1 bt311.2.2.1 bt311.2.2.2.1 bt311.2.2.2.2.1 bt311.2.2.2.2.2.1 bt311.2.2.2.2.2.2.1 bt311.2.2.2.2.2.2.2.1 bt311.2.2.2.2.2.2.2.2.1 bt311.2.2.2.2.2.2.2.2.2.1 bt332.1 bt332.2.1 bt332.2.2.1 bt332.2.2.2.1 bt332.2.2.2.2.1) else (paymasterlaw14_WithholdNone.j0 k true bt288.1 bt288.2.1 bt288.2.2.1 bt288.2.2.2.1 bt288.2.2.2.2.1 bt311.1 bt311.2.1 bt311.2.2.1 bt311.2.2.2.1 bt311.2.2.2.2.1 bt311.2.2.2.2.2.1 bt311.2.2.2.2.2.2.1 bt311.2.2.2.2.2.2.2.1 bt311.2.2.2.2.2.2.2.2.1 bt311.2.2.2.2.2.2.2.2.2.1 bt332.1 bt332.2.1 bt332.2.2.1 bt332.2.2.2.1 bt332.2.2.2.2.1)) else (paymasterlaw14_WithholdNone.j0 k true bt288.1 bt288.2.1 bt288.2.2.1 bt288.2.2.2.1 bt288.2.2.2.2.1 bt311.1 bt311.2.1 bt311.2.2.1 bt311.2.2.2.1 bt311.2.2.2.2.1 bt311.2.2.2.2.2.1 bt311.2.2.2.2.2.2.1 bt311.2.2.2.2.2.2.2.1 bt311.2.2.2.2.2.2.2.2.1 bt311.2.2.2.2.2.2.2.2.2.1 bt332.1 bt332.2.1 bt332.2.2.1 bt332.2.2.2.1 bt332.2.2.2.2.1)) else (paymasterlaw14_WithholdNone.j0 k true bt288.1 bt288.2.1 bt288.2.2.1 bt288.2.2.2.1 bt288.2.2.2.2.1 bt311.1 bt311.2.1 bt311.2.2.1 bt311.2.2.2.1 bt311.2.2.2.2.1 bt311.2.2.2.2.2.1 bt311.2.2.2.2.2.2.1 bt311.2.2.2.2.2.2.2.1 bt311.2.2.2.2.2.2.2.2.1 bt311.2.2.2.2.2.2.2.2.2.1 bt332.1 bt332.2.1 bt332.2.2.1 bt332.2.2.2.1 bt332.2.2.2.2.1)) else (paymasterlaw14_WithholdNone.j0 k true bt288.1 bt288.2.1 bt288.2.2.1 bt288.2.2.2.1 bt288.2.2.2.2.1 bt311.1 bt311.2.1 bt311.2.2.1 bt311.2.2.2.1 bt311.2.2.2.2.1 bt311.2.2.2.2.2.1 bt311.2.2.2.2.2.2.1 bt311.2.2.2.2.2.2.2.1 bt311.2.2.2.2.2.2.2.2.1 bt311.2.2.2.2.2.2.2.2.2.1 bt332.1 bt332.2.1 bt332.2.2.1 bt332.2.2.2.1 bt332.2.2.2.2.1)) else (paymasterlaw14_WithholdNone.j0 k true bt288.1 bt288.2.1 bt288.2.2.1 bt288.2.2.2.1 bt288.2.2.2.2.1 bt311.1 bt311.2.1 bt311.2.2.1 bt311.2.2.2.1 bt311.2.2.2.2.1 bt311.2.2.2.2.2.1 bt311.2.2.2.2.2.2.1 bt311.2.2.2.2.2.2.2.1 bt311.2.2.2.2.2.2.2.2.1 bt311.2.2.2.2.2.2.2.2.2.1 bt332.1 bt332.2.1 bt332.2.2.1 bt332.2.2.2.1 bt332.2.2.2.2.1)))) else (if bt288.2.2.2.2.2.2.2.2.2.2 = 1 then ((withhold_Right.f k l0_0 l0_1).bind fun t309 => (if t309 = true then (none) else ((paymasterlaw14_awake.f k).bind fun t310 => (some t310)))) else (none)))) else ((paymasterlaw14_awake.f k).bind fun t287 => (some t287)))) = some r := h
 clear h
 replace H := Option.bind_eq_some_iff.mp H
 obtain ⟨t286, A40, H⟩ := H
 (try dsimp only at H)
 have A4 := Aside0.mk A40
 clear A40
 by_cases c5 : t286 = true
 ·subst c5
  rw [if_pos rfl] at H
  replace H := Option.bind_eq_some_iff.mp H
  obtain ⟨⟨t288, t289, t290, t291, t294, t297, t298, t299, t300, t303, t306⟩, A60, H⟩ := H
  (try dsimp only at H)
  have A6 := Aside0.mk A60
  clear A60
  by_cases c7 : t306 = 0
  ·rw [if_pos c7] at H
   have c7b0 : (t306 == 0) = true := beq_iff_eq.mpr c7
   have c7b1 : (t306 != 0) = false := bne_eq_false_iff_eq.mpr c7
   clear c7
   replace H := Option.bind_eq_some_iff.mp H
   obtain ⟨⟨t311, t312, t313, t314, t317, t320, t321, t322, t323, t326, t329⟩, A80, H⟩ := H
   (try dsimp only at H)
   have A8 := Aside0.mk A80
   clear A80
   replace H := Option.bind_eq_some_iff.mp H
   obtain ⟨⟨t332, t333, t334, t335, t338, t341, t342, t343, t344, t347, t350⟩, A90, H⟩ := H
   (try dsimp only at H)
   have A9 := Aside0.mk A90
   clear A90
   have HC10 := Aside0.mk H
   clear H
   go_enter Try.func3, Try.ntmps3
   go_upto_region 9 with (first | ((with_reducible refine gate_dst (N := 3) rfl ?_); refine bx_ 3 #[.slice A0_0 l0_0.length c0_0, .slice A0_1 l0_1.length c0_1] 25 ?_; intro gb285 hg w11 hbox hb; have BK285 := Aside0.mk hbox; have GW285 := gs_ hg; have GE285 := gs_ hg; replace HB := hs_ hb; clear hb hbox hg; obtain ⟨hcz12_0, hcz12_1, hfz12_0, hfz12_1⟩ := c2_ BK285.out) | ((with_reducible refine gate_callee (f := 9) rfl ?_); refine goesL_ (some 25) rfl rfl Try.func9 (by kernel_rfl) rfl #[.agg #[.slice A0_0 l0_0.length c0_0, .slice A0_1 l0_1.length c0_1]] rfl ga_ ?_; (with_reducible refine (paymasterlaw14_small.calls _ _ l0_0 _ _ l0_1 true _ ?side1 ?side2 ?side3 ?side4 A4.out).mono ?_); (case side1 => exact kc_ (Kd.C_below HR0_0.out HB.out)); (case side2 => exact HC0_0.out); (case side3 => exact kc_ (Kd.C_below HR0_1.out HB.out)); (case side4 => exact HC0_1.out); rintro e w13 ⟨rfl, hb⟩; refine ⟨_, rfl, ?_⟩; replace BK285 := bb_ BK285.out hb; replace HB := hs_ hb; (try clear hb); (try clear hb2); (try clear hk); (try clear hi); obtain ⟨hcz14_0, hcz14_1, hfz14_0, hfz14_1⟩ := c2_ BK285.out) | ((with_reducible refine gate_callee (f := 11) rfl ?_); refine goesL_ (some 33) rfl rfl Try.func11 (by kernel_rfl) rfl #[.agg #[.slice A0_0 l0_0.length c0_0, .slice A0_1 l0_1.length c0_1], .agg #[.int .i64 0, .int .i64 0, .int .i64 0, .slice none 0 0, .slice none 0 0], .int .i64 (Int.tmod a1 1099511627776), .int .i64 (Int.tmod a2 1099511627776)] rfl ga_ ?_; (refine (withhold_Step.calls k _ _ l0_0 _ _ l0_1 0 0 0 _ _ ([] : List Int) _ _ ([] : List Int) (Int.tmod a1 1099511627776) (Int.tmod a2 1099511627776) t288 t289 t290 t291 t294 t297 t298 t299 t300 t303 t306 _ ?side1 ?side2 ?side3 ?side4 ?side5 ?side6 ?side7 ?side8 A6.out).mono ?_); (case side1 => exact kc_ (Kd.C_below HR0_0.out HB.out)); (case side2 => exact HC0_0.out); (case side3 => exact kc_ (Kd.C_below HR0_1.out HB.out)); (case side4 => exact HC0_1.out); (case side5 => exact Kd.C_nil _ _); (case side6 => exact Nat.le_refl _); (case side7 => exact Kd.C_nil _ _); (case side8 => exact Nat.le_refl _); rintro e w15 ⟨v292, v295, v301, v304, rfl, ho0, ho1, ho2, ho3, hb⟩; refine ⟨_, rfl, ?_⟩; have HO293 := rl0_ ho0; have HO296 := rl0_ ho1; have HO302 := rl0_ ho2; have HO305 := rl0_ ho3; replace BK285 := bb_ BK285.out hb; replace HB := hs_ hb; (try clear hb); (try clear hb2); (try clear hk); (try clear hi); (try clear ho0); (try clear ho1); (try clear ho2); (try clear ho3)) | ((with_reducible refine gate_dst (N := 9) rfl ?_); refine bx_ 9 #[.int .i64 0, .int .i64 0, .int .i64 0, .slice none 0 0, .slice none 0 0] 30 ?_; intro gb307 hg w16 hbox hb; have BK307 := Aside0.mk hbox; have GW307 := gs_ hg; have GE307 := gs_ hg; have NB285_307 := nl_ hg BK285.out; have NB307_285 := ng_ hg BK285.out; replace HO293 := rl_ HO293.out hb; replace HO296 := rl_ HO296.out hb; replace HO302 := rl_ HO302.out hb; replace HO305 := rl_ HO305.out hb; replace BK285 := bb_ BK285.out hb; replace HB := hs_ hb; clear hb hbox hg) | ((with_reducible refine gate_dst (N := 10) rfl ?_); refine bx_ 10 #[.int .i64 0, .int .i64 0, .int .i64 0, .slice none 0 0, .slice none 0 0] 30 ?_; intro gb308 hg w17 hbox hb; have BK308 := Aside0.mk hbox; have GW308 := gs_ hg; have GE308 := gs_ hg; have NB285_308 := nl_ hg BK285.out; have NB308_285 := ng_ hg BK285.out; have NB307_308 := nl_ hg BK307.out; have NB308_307 := ng_ hg BK307.out; replace HO293 := rl_ HO293.out hb; replace HO296 := rl_ HO296.out hb; replace HO302 := rl_ HO302.out hb; replace HO305 := rl_ HO305.out hb; replace BK285 := bb_ BK285.out hb; replace BK307 := bb_ BK307.out hb; replace HB := hs_ hb; clear hb hbox hg; have hnb18 := NB307_285.out; have hnc18 := NB285_307.out; have hnb19 := NB307_308.out; have hnc19 := NB308_307.out; obtain ⟨hcz20_0, hcz20_1, hcz20_2, hcz20_3, hcz20_4, hfz20_0, hfz20_1, hfz20_2, hfz20_3, hfz20_4⟩ := c5_ BK307.out; obtain ⟨Ao21, co21, eo21⟩ := Kd.R_slice HO293.out; subst eo21; obtain ⟨Ao22, co22, eo22⟩ := Kd.R_slice HO296.out; subst eo22; have hnb23 := NB308_285.out; have hnc23 := NB285_308.out; obtain ⟨hcz24_0, hcz24_1, hcz24_2, hcz24_3, hcz24_4, hfz24_0, hfz24_1, hfz24_2, hfz24_3, hfz24_4⟩ := c5_ BK308.out; obtain ⟨Ao25, co25, eo25⟩ := Kd.R_slice HO302.out; subst eo25; obtain ⟨Ao26, co26, eo26⟩ := Kd.R_slice HO305.out; subst eo26; obtain ⟨hcz27_0, hcz27_1, hfz27_0, hfz27_1⟩ := c2_ BK285.out) | ((with_reducible refine gate_callee (f := 11) rfl ?_); refine goesL_ (some 52) rfl rfl Try.func11 (by kernel_rfl) rfl #[.agg #[.slice A0_0 l0_0.length c0_0, .slice A0_1 l0_1.length c0_1], .agg #[.int .i64 t288, .int .i64 t289, .int .i64 t290, .slice Ao21 t291.length co21, .slice Ao22 t294.length co22], .int .i64 0, .int .i64 0] rfl ga_ ?_; (with_reducible refine (withhold_Step.calls k _ _ l0_0 _ _ l0_1 t288 t289 t290 _ _ t291 _ _ t294 0 0 t311 t312 t313 t314 t317 t320 t321 t322 t323 t326 t329 _ ?side1 ?side2 ?side3 ?side4 ?side5 ?side6 ?side7 ?side8 A8.out).mono ?_); (case side1 => exact Kd.C_below HR0_0.out bl_); (case side2 => exact HC0_0.out); (case side3 => exact Kd.C_below HR0_1.out bl_); (case side4 => exact HC0_1.out); (case side5 => refine (Kd.R_reads' (e := 3) (base := w.heap.size) (ok := fun k_ => (some k_ ≠ (.slice Ao22 t294.length co22 : Value).ownBlock ∧ (some k_ ≠ (.slice Ao25 t300.length co25 : Value).ownBlock ∧ some k_ ≠ (.slice Ao26 t303.length co26 : Value).ownBlock))) (n := t291.length) (c := co21) ?_).2.2; exact (rs_ (ty_ (ty_ HO293.out BK307.out) BK308.out))); (case side6 => exact (Kd.R_reads' HO293.out).2.1); (case side7 => refine (Kd.R_reads' (e := 3) (base := w.heap.size) (ok := fun k_ => (some k_ ≠ (.slice Ao21 t291.length co21 : Value).ownBlock ∧ (some k_ ≠ (.slice Ao25 t300.length co25 : Value).ownBlock ∧ some k_ ≠ (.slice Ao26 t303.length co26 : Value).ownBlock))) (n := t294.length) (c := co22) ?_).2.2; exact (rs_ (ty_ (ty_ HO296.out BK307.out) BK308.out))); (case side8 => exact (Kd.R_reads' HO296.out).2.1); rintro e w28 ⟨v315, v318, v324, v327, rfl, ho0, ho1, ho2, ho3, hb⟩; refine ⟨_, rfl, ?_⟩; have HO316 := rl0_ (rn_ (rn_ (rn_ (rn_ ho0 (ty_ (ty_ HO293.out BK307.out) BK308.out)) (ty_ (ty_ HO296.out BK307.out) BK308.out)) (ty_ (ty_ HO302.out BK307.out) BK308.out)) (ty_ (ty_ HO305.out BK307.out) BK308.out)); have HO319 := rl0_ (rn_ (rn_ (rn_ (rn_ ho1 (ty_ (ty_ HO293.out BK307.out) BK308.out)) (ty_ (ty_ HO296.out BK307.out) BK308.out)) (ty_ (ty_ HO302.out BK307.out) BK308.out)) (ty_ (ty_ HO305.out BK307.out) BK308.out)); have HO325 := rl0_ (rn_ (rn_ (rn_ (rn_ ho2 (ty_ (ty_ HO293.out BK307.out) BK308.out)) (ty_ (ty_ HO296.out BK307.out) BK308.out)) (ty_ (ty_ HO302.out BK307.out) BK308.out)) (ty_ (ty_ HO305.out BK307.out) BK308.out)); have HO328 := rl0_ (rn_ (rn_ (rn_ (rn_ ho3 (ty_ (ty_ HO293.out BK307.out) BK308.out)) (ty_ (ty_ HO296.out BK307.out) BK308.out)) (ty_ (ty_ HO302.out BK307.out) BK308.out)) (ty_ (ty_ HO305.out BK307.out) BK308.out)); replace HO293 := ro4_ (ty_ (ty_ HO293.out BK307.out) BK308.out) hb ho0 ho1 ho2 ho3; replace HO296 := ro4_ (ty_ (ty_ HO296.out BK307.out) BK308.out) hb ho0 ho1 ho2 ho3; replace HO302 := ro4_ (ty_ (ty_ HO302.out BK307.out) BK308.out) hb ho0 ho1 ho2 ho3; replace HO305 := ro4_ (ty_ (ty_ HO305.out BK307.out) BK308.out) hb ho0 ho1 ho2 ho3; replace BK285 := bb_ BK285.out hb; replace BK307 := Aside0.mk (blk_below (g := gb307) (o := .cells #[.int .i64 t288, .int .i64 t289, .int .i64 t290, .slice Ao21 t291.length co21, .slice Ao22 t294.length co22] 30 (0, 0)) (bp_ BK307.out) hb); replace BK308 := Aside0.mk (blk_below (g := gb308) (o := .cells #[.int .i64 t297, .int .i64 t298, .int .i64 t299, .slice Ao25 t300.length co25, .slice Ao26 t303.length co26] 30 (0, 0)) (bp_ BK308.out) hb); replace HB := hs_ hb; (try clear hb); (try clear hb2); (try clear hk); (try clear hi); (try clear ho0); (try clear ho1); (try clear ho2); (try clear ho3)) | ((with_reducible refine gate_dst (N := 12) rfl ?_); refine bx_ 12 #[.int .i64 0, .int .i64 0, .int .i64 0, .slice none 0 0, .slice none 0 0] 30 ?_; intro gb330 hg w29 hbox hb; have BK330 := Aside0.mk hbox; have GW330 := gs_ hg; have GE330 := gs_ hg; have NB285_330 := nl_ hg BK285.out; have NB330_285 := ng_ hg BK285.out; have NB307_330 := nl_ hg BK307.out; have NB330_307 := ng_ hg BK307.out; have NB308_330 := nl_ hg BK308.out; have NB330_308 := ng_ hg BK308.out; replace HO293 := rl_ HO293.out hb; replace HO296 := rl_ HO296.out hb; replace HO302 := rl_ HO302.out hb; replace HO305 := rl_ HO305.out hb; replace HO316 := rl_ HO316.out hb; replace HO319 := rl_ HO319.out hb; replace HO325 := rl_ HO325.out hb; replace HO328 := rl_ HO328.out hb; replace BK285 := bb_ BK285.out hb; replace BK307 := bb_ BK307.out hb; replace BK308 := bb_ BK308.out hb; replace HB := hs_ hb; clear hb hbox hg) | ((with_reducible refine gate_dst (N := 13) rfl ?_); refine bx_ 13 #[.int .i64 0, .int .i64 0, .int .i64 0, .slice none 0 0, .slice none 0 0] 30 ?_; intro gb331 hg w30 hbox hb; have BK331 := Aside0.mk hbox; have GW331 := gs_ hg; have GE331 := gs_ hg; have NB285_331 := nl_ hg BK285.out; have NB331_285 := ng_ hg BK285.out; have NB307_331 := nl_ hg BK307.out; have NB331_307 := ng_ hg BK307.out; have NB308_331 := nl_ hg BK308.out; have NB331_308 := ng_ hg BK308.out; have NB330_331 := nl_ hg BK330.out; have NB331_330 := ng_ hg BK330.out; replace HO293 := rl_ HO293.out hb; replace HO296 := rl_ HO296.out hb; replace HO302 := rl_ HO302.out hb; replace HO305 := rl_ HO305.out hb; replace HO316 := rl_ HO316.out hb; replace HO319 := rl_ HO319.out hb; replace HO325 := rl_ HO325.out hb; replace HO328 := rl_ HO328.out hb; replace BK285 := bb_ BK285.out hb; replace BK307 := bb_ BK307.out hb; replace BK308 := bb_ BK308.out hb; replace BK330 := bb_ BK330.out hb; replace HB := hs_ hb; clear hb hbox hg; have hnb31 := NB330_285.out; have hnc31 := NB285_330.out; have hnb32 := NB330_307.out; have hnc32 := NB307_330.out; have hnb33 := NB330_308.out; have hnc33 := NB308_330.out; have hnb34 := NB330_331.out; have hnc34 := NB331_330.out; obtain ⟨hcz35_0, hcz35_1, hcz35_2, hcz35_3, hcz35_4, hfz35_0, hfz35_1, hfz35_2, hfz35_3, hfz35_4⟩ := c5_ BK330.out; obtain ⟨Ao36, co36, eo36⟩ := Kd.R_slice HO316.out; subst eo36; obtain ⟨Ao37, co37, eo37⟩ := Kd.R_slice HO319.out; subst eo37; have hnb38 := NB331_285.out; have hnc38 := NB285_331.out; have hnb39 := NB331_307.out; have hnc39 := NB307_331.out; have hnb40 := NB331_308.out; have hnc40 := NB308_331.out; obtain ⟨hcz41_0, hcz41_1, hcz41_2, hcz41_3, hcz41_4, hfz41_0, hfz41_1, hfz41_2, hfz41_3, hfz41_4⟩ := c5_ BK331.out; obtain ⟨Ao42, co42, eo42⟩ := Kd.R_slice HO325.out; subst eo42; obtain ⟨Ao43, co43, eo43⟩ := Kd.R_slice HO328.out; subst eo43; obtain ⟨hcz44_0, hcz44_1, hfz44_0, hfz44_1⟩ := c2_ BK285.out; obtain ⟨hcz45_0, hcz45_1, hcz45_2, hcz45_3, hcz45_4, hfz45_0, hfz45_1, hfz45_2, hfz45_3, hfz45_4⟩ := c5_ BK307.out) | ((with_reducible refine gate_callee (f := 11) rfl ?_); refine goesL_ (some 63) rfl rfl Try.func11 (by kernel_rfl) rfl #[.agg #[.slice A0_0 l0_0.length c0_0, .slice A0_1 l0_1.length c0_1], .agg #[.int .i64 t288, .int .i64 t289, .int .i64 t290, .slice Ao21 t291.length co21, .slice Ao22 t294.length co22], .int .i64 (wrap64 (-(Int.tmod a1 1099511627776))), .int .i64 (wrap64 (-(Int.tmod a2 1099511627776)))] rfl ga_ ?_; (with_reducible refine (withhold_Step.calls k _ _ l0_0 _ _ l0_1 t288 t289 t290 _ _ t291 _ _ t294 (wrap64 (-(Int.tmod a1 1099511627776))) (wrap64 (-(Int.tmod a2 1099511627776))) t332 t333 t334 t335 t338 t341 t342 t343 t344 t347 t350 _ ?side1 ?side2 ?side3 ?side4 ?side5 ?side6 ?side7 ?side8 A9.out).mono ?_); (case side1 => exact Kd.C_below HR0_0.out bl_); (case side2 => exact HC0_0.out); (case side3 => exact Kd.C_below HR0_1.out bl_); (case side4 => exact HC0_1.out); (case side5 => refine (Kd.R_reads' (e := 3) (base := w.heap.size) (ok := fun k_ => (((((some k_ ≠ (.slice Ao22 t294.length co22 : Value).ownBlock ∧ (some k_ ≠ (.slice Ao25 t300.length co25 : Value).ownBlock ∧ some k_ ≠ (.slice Ao26 t303.length co26 : Value).ownBlock)) ∧ some k_ ≠ (.slice Ao36 t314.length co36 : Value).ownBlock) ∧ some k_ ≠ (.slice Ao37 t317.length co37 : Value).ownBlock) ∧ some k_ ≠ (.slice Ao42 t323.length co42 : Value).ownBlock) ∧ some k_ ≠ (.slice Ao43 t326.length co43 : Value).ownBlock)) (n := t291.length) (c := co21) ?_).2.2; exact (rs_ (ty_ (ty_ HO293.out BK330.out) BK331.out))); (case side6 => exact (Kd.R_reads' HO293.out).2.1); (case side7 => refine (Kd.R_reads' (e := 3) (base := w.heap.size) (ok := fun k_ => (((((some k_ ≠ (.slice Ao21 t291.length co21 : Value).ownBlock ∧ (some k_ ≠ (.slice Ao25 t300.length co25 : Value).ownBlock ∧ some k_ ≠ (.slice Ao26 t303.length co26 : Value).ownBlock)) ∧ some k_ ≠ (.slice Ao36 t314.length co36 : Value).ownBlock) ∧ some k_ ≠ (.slice Ao37 t317.length co37 : Value).ownBlock) ∧ some k_ ≠ (.slice Ao42 t323.length co42 : Value).ownBlock) ∧ some k_ ≠ (.slice Ao43 t326.length co43 : Value).ownBlock)) (n := t294.length) (c := co22) ?_).2.2; exact (rs_ (ty_ (ty_ HO296.out BK330.out) BK331.out))); (case side8 => exact (Kd.R_reads' HO296.out).2.1); rintro e w46 ⟨v336, v339, v345, v348, rfl, ho0, ho1, ho2, ho3, hb⟩; refine ⟨_, rfl, ?_⟩; have HO337 := rl0_ (rn_ (rn_ (rn_ (rn_ (rn_ (rn_ (rn_ (rn_ ho0 (ty_ (ty_ HO293.out BK330.out) BK331.out)) (ty_ (ty_ HO296.out BK330.out) BK331.out)) (ty_ (ty_ HO302.out BK330.out) BK331.out)) (ty_ (ty_ HO305.out BK330.out) BK331.out)) (ty_ (ty_ HO316.out BK330.out) BK331.out)) (ty_ (ty_ HO319.out BK330.out) BK331.out)) (ty_ (ty_ HO325.out BK330.out) BK331.out)) (ty_ (ty_ HO328.out BK330.out) BK331.out)); have HO340 := rl0_ (rn_ (rn_ (rn_ (rn_ (rn_ (rn_ (rn_ (rn_ ho1 (ty_ (ty_ HO293.out BK330.out) BK331.out)) (ty_ (ty_ HO296.out BK330.out) BK331.out)) (ty_ (ty_ HO302.out BK330.out) BK331.out)) (ty_ (ty_ HO305.out BK330.out) BK331.out)) (ty_ (ty_ HO316.out BK330.out) BK331.out)) (ty_ (ty_ HO319.out BK330.out) BK331.out)) (ty_ (ty_ HO325.out BK330.out) BK331.out)) (ty_ (ty_ HO328.out BK330.out) BK331.out)); have HO346 := rl0_ (rn_ (rn_ (rn_ (rn_ (rn_ (rn_ (rn_ (rn_ ho2 (ty_ (ty_ HO293.out BK330.out) BK331.out)) (ty_ (ty_ HO296.out BK330.out) BK331.out)) (ty_ (ty_ HO302.out BK330.out) BK331.out)) (ty_ (ty_ HO305.out BK330.out) BK331.out)) (ty_ (ty_ HO316.out BK330.out) BK331.out)) (ty_ (ty_ HO319.out BK330.out) BK331.out)) (ty_ (ty_ HO325.out BK330.out) BK331.out)) (ty_ (ty_ HO328.out BK330.out) BK331.out)); have HO349 := rl0_ (rn_ (rn_ (rn_ (rn_ (rn_ (rn_ (rn_ (rn_ ho3 (ty_ (ty_ HO293.out BK330.out) BK331.out)) (ty_ (ty_ HO296.out BK330.out) BK331.out)) (ty_ (ty_ HO302.out BK330.out) BK331.out)) (ty_ (ty_ HO305.out BK330.out) BK331.out)) (ty_ (ty_ HO316.out BK330.out) BK331.out)) (ty_ (ty_ HO319.out BK330.out) BK331.out)) (ty_ (ty_ HO325.out BK330.out) BK331.out)) (ty_ (ty_ HO328.out BK330.out) BK331.out)); replace HO293 := ro4_ (ty_ (ty_ HO293.out BK330.out) BK331.out) hb ho0 ho1 ho2 ho3; replace HO296 := ro4_ (ty_ (ty_ HO296.out BK330.out) BK331.out) hb ho0 ho1 ho2 ho3; replace HO302 := ro4_ (ty_ (ty_ HO302.out BK330.out) BK331.out) hb ho0 ho1 ho2 ho3; replace HO305 := ro4_ (ty_ (ty_ HO305.out BK330.out) BK331.out) hb ho0 ho1 ho2 ho3; replace HO316 := ro4_ (ty_ (ty_ HO316.out BK330.out) BK331.out) hb ho0 ho1 ho2 ho3; replace HO319 := ro4_ (ty_ (ty_ HO319.out BK330.out) BK331.out) hb ho0 ho1 ho2 ho3; replace HO325 := ro4_ (ty_ (ty_ HO325.out BK330.out) BK331.out) hb ho0 ho1 ho2 ho3; replace HO328 := ro4_ (ty_ (ty_ HO328.out BK330.out) BK331.out) hb ho0 ho1 ho2 ho3; replace BK285 := bb_ BK285.out hb; replace BK307 := bb_ BK307.out hb; replace BK308 := bb_ BK308.out hb; replace BK330 := Aside0.mk (blk_below (g := gb330) (o := .cells #[.int .i64 t311, .int .i64 t312, .int .i64 t313, .slice Ao36 t314.length co36, .slice Ao37 t317.length co37] 30 (0, 0)) (bp_ BK330.out) hb); replace BK331 := Aside0.mk (blk_below (g := gb331) (o := .cells #[.int .i64 t320, .int .i64 t321, .int .i64 t322, .slice Ao42 t323.length co42, .slice Ao43 t326.length co43] 30 (0, 0)) (bp_ BK331.out) hb); replace HB := hs_ hb; (try clear hb); (try clear hb2); (try clear hk); (try clear hi); (try clear ho0); (try clear ho1); (try clear ho2); (try clear ho3)) | ((with_reducible refine gate_dst (N := 15) rfl ?_); refine bx_ 15 #[.int .i64 0, .int .i64 0, .int .i64 0, .slice none 0 0, .slice none 0 0] 30 ?_; intro gb351 hg w47 hbox hb; have BK351 := Aside0.mk hbox; have GW351 := gs_ hg; have GE351 := gs_ hg; have NB285_351 := nl_ hg BK285.out; have NB351_285 := ng_ hg BK285.out; have NB307_351 := nl_ hg BK307.out; have NB351_307 := ng_ hg BK307.out; have NB308_351 := nl_ hg BK308.out; have NB351_308 := ng_ hg BK308.out; have NB330_351 := nl_ hg BK330.out; have NB351_330 := ng_ hg BK330.out; have NB331_351 := nl_ hg BK331.out; have NB351_331 := ng_ hg BK331.out; replace HO293 := rl_ HO293.out hb; replace HO296 := rl_ HO296.out hb; replace HO302 := rl_ HO302.out hb; replace HO305 := rl_ HO305.out hb; replace HO316 := rl_ HO316.out hb; replace HO319 := rl_ HO319.out hb; replace HO325 := rl_ HO325.out hb; replace HO328 := rl_ HO328.out hb; replace HO337 := rl_ HO337.out hb; replace HO340 := rl_ HO340.out hb; replace HO346 := rl_ HO346.out hb; replace HO349 := rl_ HO349.out hb; replace BK285 := bb_ BK285.out hb; replace BK307 := bb_ BK307.out hb; replace BK308 := bb_ BK308.out hb; replace BK330 := bb_ BK330.out hb; replace BK331 := bb_ BK331.out hb; replace HB := hs_ hb; clear hb hbox hg) | ((with_reducible refine gate_dst (N := 16) rfl ?_); refine bx_ 16 #[.int .i64 0, .int .i64 0, .int .i64 0, .slice none 0 0, .slice none 0 0] 30 ?_; intro gb352 hg w48 hbox hb; have BK352 := Aside0.mk hbox; have GW352 := gs_ hg; have GE352 := gs_ hg; have NB285_352 := nl_ hg BK285.out; have NB352_285 := ng_ hg BK285.out; have NB307_352 := nl_ hg BK307.out; have NB352_307 := ng_ hg BK307.out; have NB308_352 := nl_ hg BK308.out; have NB352_308 := ng_ hg BK308.out; have NB330_352 := nl_ hg BK330.out; have NB352_330 := ng_ hg BK330.out; have NB331_352 := nl_ hg BK331.out; have NB352_331 := ng_ hg BK331.out; have NB351_352 := nl_ hg BK351.out; have NB352_351 := ng_ hg BK351.out; replace HO293 := rl_ HO293.out hb; replace HO296 := rl_ HO296.out hb; replace HO302 := rl_ HO302.out hb; replace HO305 := rl_ HO305.out hb; replace HO316 := rl_ HO316.out hb; replace HO319 := rl_ HO319.out hb; replace HO325 := rl_ HO325.out hb; replace HO328 := rl_ HO328.out hb; replace HO337 := rl_ HO337.out hb; replace HO340 := rl_ HO340.out hb; replace HO346 := rl_ HO346.out hb; replace HO349 := rl_ HO349.out hb; replace BK285 := bb_ BK285.out hb; replace BK307 := bb_ BK307.out hb; replace BK308 := bb_ BK308.out hb; replace BK330 := bb_ BK330.out hb; replace BK331 := bb_ BK331.out hb; replace BK351 := bb_ BK351.out hb; replace HB := hs_ hb; clear hb hbox hg; have hnb49 := NB351_285.out; have hnc49 := NB285_351.out; have hnb50 := NB351_307.out; have hnc50 := NB307_351.out; have hnb51 := NB351_308.out; have hnc51 := NB308_351.out; have hnb52 := NB351_330.out; have hnc52 := NB330_351.out; have hnb53 := NB351_331.out; have hnc53 := NB331_351.out; have hnb54 := NB351_352.out; have hnc54 := NB352_351.out; obtain ⟨hcz55_0, hcz55_1, hcz55_2, hcz55_3, hcz55_4, hfz55_0, hfz55_1, hfz55_2, hfz55_3, hfz55_4⟩ := c5_ BK351.out; obtain ⟨Ao56, co56, eo56⟩ := Kd.R_slice HO337.out; subst eo56; obtain ⟨Ao57, co57, eo57⟩ := Kd.R_slice HO340.out; subst eo57; have hnb58 := NB352_285.out; have hnc58 := NB285_352.out; have hnb59 := NB352_307.out; have hnc59 := NB307_352.out; have hnb60 := NB352_308.out; have hnc60 := NB308_352.out; have hnb61 := NB352_330.out; have hnc61 := NB330_352.out; have hnb62 := NB352_331.out; have hnc62 := NB331_352.out; obtain ⟨hcz63_0, hcz63_1, hcz63_2, hcz63_3, hcz63_4, hfz63_0, hfz63_1, hfz63_2, hfz63_3, hfz63_4⟩ := c5_ BK352.out; obtain ⟨Ao64, co64, eo64⟩ := Kd.R_slice HO346.out; subst eo64; obtain ⟨Ao65, co65, eo65⟩ := Kd.R_slice HO349.out; subst eo65))
   (try simp only [Act.put, List.setIfInBounds_toArray, List.set_cons_zero, List.set_cons_succ])
   go_cut [92] (fun v92 wc => ∃ (kq : Nat) (x92_9 : Bool), v92 = .bool x92_9 ∧ Aside0 (paymasterlaw14_WithholdNone.j0 kq x92_9 t288 t289 t290 t291 t294 t311 t312 t313 t314 t317 t320 t321 t322 t323 t326 t332 t333 t334 t335 t338 = some r) ∧ Aside0 (kq ≤ k) ∧ Aside0 (Kd.R (Kd.int .i64) 3 wc w.heap.size (fun k_ => some k_ ≠ ((.slice Ao22 t294.length co22) : Value).ownBlock ∧ some k_ ≠ ((.slice Ao25 t300.length co25) : Value).ownBlock ∧ some k_ ≠ ((.slice Ao26 t303.length co26) : Value).ownBlock ∧ some k_ ≠ ((.slice Ao36 t314.length co36) : Value).ownBlock ∧ some k_ ≠ ((.slice Ao37 t317.length co37) : Value).ownBlock ∧ some k_ ≠ ((.slice Ao42 t323.length co42) : Value).ownBlock ∧ some k_ ≠ ((.slice Ao43 t326.length co43) : Value).ownBlock ∧ some k_ ≠ ((.slice Ao56 t335.length co56) : Value).ownBlock ∧ some k_ ≠ ((.slice Ao57 t338.length co57) : Value).ownBlock ∧ some k_ ≠ ((.slice Ao64 t344.length co64) : Value).ownBlock ∧ some k_ ≠ ((.slice Ao65 t347.length co65) : Value).ownBlock) (.slice Ao21 t291.length co21) t291) ∧ Aside0 (Kd.R (Kd.int .i64) 3 wc w.heap.size (fun k_ => some k_ ≠ ((.slice Ao21 t291.length co21) : Value).ownBlock ∧ some k_ ≠ ((.slice Ao25 t300.length co25) : Value).ownBlock ∧ some k_ ≠ ((.slice Ao26 t303.length co26) : Value).ownBlock ∧ some k_ ≠ ((.slice Ao36 t314.length co36) : Value).ownBlock ∧ some k_ ≠ ((.slice Ao37 t317.length co37) : Value).ownBlock ∧ some k_ ≠ ((.slice Ao42 t323.length co42) : Value).ownBlock ∧ some k_ ≠ ((.slice Ao43 t326.length co43) : Value).ownBlock ∧ some k_ ≠ ((.slice Ao56 t335.length co56) : Value).ownBlock ∧ some k_ ≠ ((.slice Ao57 t338.length co57) : Value).ownBlock ∧ some k_ ≠ ((.slice Ao64 t344.length co64) : Value).ownBlock ∧ some k_ ≠ ((.slice Ao65 t347.length co65) : Value).ownBlock) (.slice Ao22 t294.length co22) t294) ∧ Aside0 (Kd.R (Kd.int .i64) 3 wc w.heap.size (fun k_ => some k_ ≠ ((.slice Ao21 t291.length co21) : Value).ownBlock ∧ some k_ ≠ ((.slice Ao22 t294.length co22) : Value).ownBlock ∧ some k_ ≠ ((.slice Ao26 t303.length co26) : Value).ownBlock ∧ some k_ ≠ ((.slice Ao36 t314.length co36) : Value).ownBlock ∧ some k_ ≠ ((.slice Ao37 t317.length co37) : Value).ownBlock ∧ some k_ ≠ ((.slice Ao42 t323.length co42) : Value).ownBlock ∧ some k_ ≠ ((.slice Ao43 t326.length co43) : Value).ownBlock ∧ some k_ ≠ ((.slice Ao56 t335.length co56) : Value).ownBlock ∧ some k_ ≠ ((.slice Ao57 t338.length co57) : Value).ownBlock ∧ some k_ ≠ ((.slice Ao64 t344.length co64) : Value).ownBlock ∧ some k_ ≠ ((.slice Ao65 t347.length co65) : Value).ownBlock) (.slice Ao25 t300.length co25) t300) ∧ Aside0 (Kd.R (Kd.int .i64) 3 wc w.heap.size (fun k_ => some k_ ≠ ((.slice Ao21 t291.length co21) : Value).ownBlock ∧ some k_ ≠ ((.slice Ao22 t294.length co22) : Value).ownBlock ∧ some k_ ≠ ((.slice Ao25 t300.length co25) : Value).ownBlock ∧ some k_ ≠ ((.slice Ao36 t314.length co36) : Value).ownBlock ∧ some k_ ≠ ((.slice Ao37 t317.length co37) : Value).ownBlock ∧ some k_ ≠ ((.slice Ao42 t323.length co42) : Value).ownBlock ∧ some k_ ≠ ((.slice Ao43 t326.length co43) : Value).ownBlock ∧ some k_ ≠ ((.slice Ao56 t335.length co56) : Value).ownBlock ∧ some k_ ≠ ((.slice Ao57 t338.length co57) : Value).ownBlock ∧ some k_ ≠ ((.slice Ao64 t344.length co64) : Value).ownBlock ∧ some k_ ≠ ((.slice Ao65 t347.length co65) : Value).ownBlock) (.slice Ao26 t303.length co26) t303) ∧ Aside0 (Kd.R (Kd.int .i64) 3 wc w.heap.size (fun k_ => some k_ ≠ ((.slice Ao21 t291.length co21) : Value).ownBlock ∧ some k_ ≠ ((.slice Ao22 t294.length co22) : Value).ownBlock ∧ some k_ ≠ ((.slice Ao25 t300.length co25) : Value).ownBlock ∧ some k_ ≠ ((.slice Ao26 t303.length co26) : Value).ownBlock ∧ some k_ ≠ ((.slice Ao37 t317.length co37) : Value).ownBlock ∧ some k_ ≠ ((.slice Ao42 t323.length co42) : Value).ownBlock ∧ some k_ ≠ ((.slice Ao43 t326.length co43) : Value).ownBlock ∧ some k_ ≠ ((.slice Ao56 t335.length co56) : Value).ownBlock ∧ some k_ ≠ ((.slice Ao57 t338.length co57) : Value).ownBlock ∧ some k_ ≠ ((.slice Ao64 t344.length co64) : Value).ownBlock ∧ some k_ ≠ ((.slice Ao65 t347.length co65) : Value).ownBlock) (.slice Ao36 t314.length co36) t314) ∧ Aside0 (Kd.R (Kd.int .i64) 3 wc w.heap.size (fun k_ => some k_ ≠ ((.slice Ao21 t291.length co21) : Value).ownBlock ∧ some k_ ≠ ((.slice Ao22 t294.length co22) : Value).ownBlock ∧ some k_ ≠ ((.slice Ao25 t300.length co25) : Value).ownBlock ∧ some k_ ≠ ((.slice Ao26 t303.length co26) : Value).ownBlock ∧ some k_ ≠ ((.slice Ao36 t314.length co36) : Value).ownBlock ∧ some k_ ≠ ((.slice Ao42 t323.length co42) : Value).ownBlock ∧ some k_ ≠ ((.slice Ao43 t326.length co43) : Value).ownBlock ∧ some k_ ≠ ((.slice Ao56 t335.length co56) : Value).ownBlock ∧ some k_ ≠ ((.slice Ao57 t338.length co57) : Value).ownBlock ∧ some k_ ≠ ((.slice Ao64 t344.length co64) : Value).ownBlock ∧ some k_ ≠ ((.slice Ao65 t347.length co65) : Value).ownBlock) (.slice Ao37 t317.length co37) t317) ∧ Aside0 (Kd.R (Kd.int .i64) 3 wc w.heap.size (fun k_ => some k_ ≠ ((.slice Ao21 t291.length co21) : Value).ownBlock ∧ some k_ ≠ ((.slice Ao22 t294.length co22) : Value).ownBlock ∧ some k_ ≠ ((.slice Ao25 t300.length co25) : Value).ownBlock ∧ some k_ ≠ ((.slice Ao26 t303.length co26) : Value).ownBlock ∧ some k_ ≠ ((.slice Ao36 t314.length co36) : Value).ownBlock ∧ some k_ ≠ ((.slice Ao37 t317.length co37) : Value).ownBlock ∧ some k_ ≠ ((.slice Ao43 t326.length co43) : Value).ownBlock ∧ some k_ ≠ ((.slice Ao56 t335.length co56) : Value).ownBlock ∧ some k_ ≠ ((.slice Ao57 t338.length co57) : Value).ownBlock ∧ some k_ ≠ ((.slice Ao64 t344.length co64) : Value).ownBlock ∧ some k_ ≠ ((.slice Ao65 t347.length co65) : Value).ownBlock) (.slice Ao42 t323.length co42) t323) ∧ Aside0 (Kd.R (Kd.int .i64) 3 wc w.heap.size (fun k_ => some k_ ≠ ((.slice Ao21 t291.length co21) : Value).ownBlock ∧ some k_ ≠ ((.slice Ao22 t294.length co22) : Value).ownBlock ∧ some k_ ≠ ((.slice Ao25 t300.length co25) : Value).ownBlock ∧ some k_ ≠ ((.slice Ao26 t303.length co26) : Value).ownBlock ∧ some k_ ≠ ((.slice Ao36 t314.length co36) : Value).ownBlock ∧ some k_ ≠ ((.slice Ao37 t317.length co37) : Value).ownBlock ∧ some k_ ≠ ((.slice Ao42 t323.length co42) : Value).ownBlock ∧ some k_ ≠ ((.slice Ao56 t335.length co56) : Value).ownBlock ∧ some k_ ≠ ((.slice Ao57 t338.length co57) : Value).ownBlock ∧ some k_ ≠ ((.slice Ao64 t344.length co64) : Value).ownBlock ∧ some k_ ≠ ((.slice Ao65 t347.length co65) : Value).ownBlock) (.slice Ao43 t326.length co43) t326) ∧ Aside0 (Kd.R (Kd.int .i64) 3 wc w.heap.size (fun k_ => some k_ ≠ ((.slice Ao21 t291.length co21) : Value).ownBlock ∧ some k_ ≠ ((.slice Ao22 t294.length co22) : Value).ownBlock ∧ some k_ ≠ ((.slice Ao25 t300.length co25) : Value).ownBlock ∧ some k_ ≠ ((.slice Ao26 t303.length co26) : Value).ownBlock ∧ some k_ ≠ ((.slice Ao36 t314.length co36) : Value).ownBlock ∧ some k_ ≠ ((.slice Ao37 t317.length co37) : Value).ownBlock ∧ some k_ ≠ ((.slice Ao42 t323.length co42) : Value).ownBlock ∧ some k_ ≠ ((.slice Ao43 t326.length co43) : Value).ownBlock ∧ some k_ ≠ ((.slice Ao57 t338.length co57) : Value).ownBlock ∧ some k_ ≠ ((.slice Ao64 t344.length co64) : Value).ownBlock ∧ some k_ ≠ ((.slice Ao65 t347.length co65) : Value).ownBlock) (.slice Ao56 t335.length co56) t335) ∧ Aside0 (Kd.R (Kd.int .i64) 3 wc w.heap.size (fun k_ => some k_ ≠ ((.slice Ao21 t291.length co21) : Value).ownBlock ∧ some k_ ≠ ((.slice Ao22 t294.length co22) : Value).ownBlock ∧ some k_ ≠ ((.slice Ao25 t300.length co25) : Value).ownBlock ∧ some k_ ≠ ((.slice Ao26 t303.length co26) : Value).ownBlock ∧ some k_ ≠ ((.slice Ao36 t314.length co36) : Value).ownBlock ∧ some k_ ≠ ((.slice Ao37 t317.length co37) : Value).ownBlock ∧ some k_ ≠ ((.slice Ao42 t323.length co42) : Value).ownBlock ∧ some k_ ≠ ((.slice Ao43 t326.length co43) : Value).ownBlock ∧ some k_ ≠ ((.slice Ao56 t335.length co56) : Value).ownBlock ∧ some k_ ≠ ((.slice Ao64 t344.length co64) : Value).ownBlock ∧ some k_ ≠ ((.slice Ao65 t347.length co65) : Value).ownBlock) (.slice Ao57 t338.length co57) t338) ∧ Aside0 (Kd.R (Kd.int .i64) 3 wc w.heap.size (fun k_ => some k_ ≠ ((.slice Ao21 t291.length co21) : Value).ownBlock ∧ some k_ ≠ ((.slice Ao22 t294.length co22) : Value).ownBlock ∧ some k_ ≠ ((.slice Ao25 t300.length co25) : Value).ownBlock ∧ some k_ ≠ ((.slice Ao26 t303.length co26) : Value).ownBlock ∧ some k_ ≠ ((.slice Ao36 t314.length co36) : Value).ownBlock ∧ some k_ ≠ ((.slice Ao37 t317.length co37) : Value).ownBlock ∧ some k_ ≠ ((.slice Ao42 t323.length co42) : Value).ownBlock ∧ some k_ ≠ ((.slice Ao43 t326.length co43) : Value).ownBlock ∧ some k_ ≠ ((.slice Ao56 t335.length co56) : Value).ownBlock ∧ some k_ ≠ ((.slice Ao57 t338.length co57) : Value).ownBlock ∧ some k_ ≠ ((.slice Ao65 t347.length co65) : Value).ownBlock) (.slice Ao64 t344.length co64) t344) ∧ Aside0 (Kd.R (Kd.int .i64) 3 wc w.heap.size (fun k_ => some k_ ≠ ((.slice Ao21 t291.length co21) : Value).ownBlock ∧ some k_ ≠ ((.slice Ao22 t294.length co22) : Value).ownBlock ∧ some k_ ≠ ((.slice Ao25 t300.length co25) : Value).ownBlock ∧ some k_ ≠ ((.slice Ao26 t303.length co26) : Value).ownBlock ∧ some k_ ≠ ((.slice Ao36 t314.length co36) : Value).ownBlock ∧ some k_ ≠ ((.slice Ao37 t317.length co37) : Value).ownBlock ∧ some k_ ≠ ((.slice Ao42 t323.length co42) : Value).ownBlock ∧ some k_ ≠ ((.slice Ao43 t326.length co43) : Value).ownBlock ∧ some k_ ≠ ((.slice Ao56 t335.length co56) : Value).ownBlock ∧ some k_ ≠ ((.slice Ao57 t338.length co57) : Value).ownBlock ∧ some k_ ≠ ((.slice Ao64 t344.length co64) : Value).ownBlock) (.slice Ao65 t347.length co65) t347) ∧ Aside0 (wc.heap[gb285]? = some (.cells #[(.slice A0_0 l0_0.length c0_0), (.slice A0_1 l0_1.length c0_1)] 25 (0, 0))) ∧ Aside0 (wc.heap[gb307]? = some (.cells #[.int .i64 t288, .int .i64 t289, .int .i64 t290, (.slice Ao21 t291.length co21), (.slice Ao22 t294.length co22)] 30 (0, 0))) ∧ Aside0 (wc.heap[gb308]? = some (.cells #[.int .i64 t297, .int .i64 t298, .int .i64 t299, (.slice Ao25 t300.length co25), (.slice Ao26 t303.length co26)] 30 (0, 0))) ∧ Aside0 (wc.heap[gb330]? = some (.cells #[.int .i64 t311, .int .i64 t312, .int .i64 t313, (.slice Ao36 t314.length co36), (.slice Ao37 t317.length co37)] 30 (0, 0))) ∧ Aside0 (wc.heap[gb331]? = some (.cells #[.int .i64 t320, .int .i64 t321, .int .i64 t322, (.slice Ao42 t323.length co42), (.slice Ao43 t326.length co43)] 30 (0, 0))) ∧ Aside0 (wc.heap[gb351]? = some (.cells #[.int .i64 t332, .int .i64 t333, .int .i64 t334, (.slice Ao56 t335.length co56), (.slice Ao57 t338.length co57)] 30 (0, 0))) ∧ Aside0 (wc.heap[gb352]? = some (.cells #[.int .i64 t341, .int .i64 t342, .int .i64 t343, (.slice Ao64 t344.length co64), (.slice Ao65 t347.length co65)] 30 (0, 0))) ∧ Aside0 (Below w.heap.size w wc))
   case first =>
    have H := HC10.out
    clear HC10
    by_cases c66 : t329 = 0
    ·rw [if_pos c66] at H
     have c66b0 : (t329 == 0) = true := beq_iff_eq.mpr c66
     have c66b1 : (t329 != 0) = false := bne_eq_false_iff_eq.mpr c66
     clear c66
     (first | rw [c66b0] | (simp only [i64_w, i32_w]; rw [c66b0]) | skip)
     by_cases c67 : t350 = 0
     ·rw [if_pos c67] at H
      have c67b0 : (t350 == 0) = true := beq_iff_eq.mpr c67
      have c67b1 : (t350 != 0) = false := bne_eq_false_iff_eq.mpr c67
      clear c67
      by_cases c68 : t322 = 0
      ·rw [if_pos c68] at H
       have c68b0 : (t322 == 0) = true := beq_iff_eq.mpr c68
       have c68b1 : (t322 != 0) = false := bne_eq_false_iff_eq.mpr c68
       clear c68
       by_cases c69 : t334 = 0
       ·rw [if_pos c69] at H
        have c69b0 : (t334 == 0) = true := beq_iff_eq.mpr c69
        have c69b1 : (t334 != 0) = false := bne_eq_false_iff_eq.mpr c69
        clear c69
        by_cases c70 : t332 = 0
        ·rw [if_pos c70] at H
         have c70b0 : (t332 == 0) = true := beq_iff_eq.mpr c70
         have c70b1 : (t332 != 0) = false := bne_eq_false_iff_eq.mpr c70
         clear c70
         have H' := Aside0.mk H
         clear H
         have hnb71 := NB331_285.out
         have hnc71 := NB285_331.out
         have hnb72 := NB331_307.out
         have hnc72 := NB307_331.out
         have hnb73 := NB331_308.out
         have hnc73 := NB308_331.out
         have hnb74 := NB331_330.out
         have hnc74 := NB330_331.out
         have hnb75 := NB331_351.out
         have hnc75 := NB351_331.out
         have hnb76 := NB331_352.out
         have hnc76 := NB352_331.out
         obtain ⟨hcz77_0, hcz77_1, hcz77_2, hcz77_3, hcz77_4, hfz77_0, hfz77_1, hfz77_2, hfz77_3, hfz77_4⟩ := c5_ BK331.out
         have hnb78 := NB351_285.out
         have hnc78 := NB285_351.out
         have hnb79 := NB351_307.out
         have hnc79 := NB307_351.out
         have hnb80 := NB351_308.out
         have hnc80 := NB308_351.out
         have hnb81 := NB351_330.out
         have hnc81 := NB330_351.out
         have hnb82 := NB351_352.out
         have hnc82 := NB352_351.out
         obtain ⟨hcz83_0, hcz83_1, hcz83_2, hcz83_3, hcz83_4, hfz83_0, hfz83_1, hfz83_2, hfz83_3, hfz83_4⟩ := c5_ BK351.out
         go_wp2
         go_meet
         case rel => exact ⟨_, ((t333 != 0)), sm_, H', ⟨by first | omega | exact Nat.le_refl _⟩, ⟨rs_ (ty_ (ty_ HO293.out BK351.out) BK352.out)⟩, ⟨rs_ (ty_ (ty_ HO296.out BK351.out) BK352.out)⟩, ⟨rs_ (ty_ (ty_ HO302.out BK351.out) BK352.out)⟩, ⟨rs_ (ty_ (ty_ HO305.out BK351.out) BK352.out)⟩, ⟨rs_ (ty_ (ty_ HO316.out BK351.out) BK352.out)⟩, ⟨rs_ (ty_ (ty_ HO319.out BK351.out) BK352.out)⟩, ⟨rs_ (ty_ (ty_ HO325.out BK351.out) BK352.out)⟩, ⟨rs_ (ty_ (ty_ HO328.out BK351.out) BK352.out)⟩, ⟨rs_ (ty_ (ty_ HO337.out BK351.out) BK352.out)⟩, ⟨rs_ (ty_ (ty_ HO340.out BK351.out) BK352.out)⟩, ⟨rs_ (ty_ (ty_ HO346.out BK351.out) BK352.out)⟩, ⟨rs_ (ty_ (ty_ HO349.out BK351.out) BK352.out)⟩, ⟨bf_ BK285.out⟩, ⟨bf_ BK307.out⟩, ⟨bf_ BK308.out⟩, ⟨bf_ BK330.out⟩, ⟨bf_ BK331.out⟩, ⟨bp_ BK351.out⟩, ⟨bp_ BK352.out⟩, ⟨bl_⟩⟩
        ·rw [if_neg c70] at H
         have c70b0 : (t332 == 0) = false := beq_eq_false_iff_ne.mpr c70
         have c70b1 : (t332 != 0) = true := bne_iff_ne.mpr c70
         have H' := Aside0.mk H
         clear H
         have hnb84 := NB331_285.out
         have hnc84 := NB285_331.out
         have hnb85 := NB331_307.out
         have hnc85 := NB307_331.out
         have hnb86 := NB331_308.out
         have hnc86 := NB308_331.out
         have hnb87 := NB331_330.out
         have hnc87 := NB330_331.out
         have hnb88 := NB331_351.out
         have hnc88 := NB351_331.out
         have hnb89 := NB331_352.out
         have hnc89 := NB352_331.out
         obtain ⟨hcz90_0, hcz90_1, hcz90_2, hcz90_3, hcz90_4, hfz90_0, hfz90_1, hfz90_2, hfz90_3, hfz90_4⟩ := c5_ BK331.out
         have hnb91 := NB351_285.out
         have hnc91 := NB285_351.out
         have hnb92 := NB351_307.out
         have hnc92 := NB307_351.out
         have hnb93 := NB351_308.out
         have hnc93 := NB308_351.out
         have hnb94 := NB351_330.out
         have hnc94 := NB330_351.out
         have hnb95 := NB351_352.out
         have hnc95 := NB352_351.out
         obtain ⟨hcz96_0, hcz96_1, hcz96_2, hcz96_3, hcz96_4, hfz96_0, hfz96_1, hfz96_2, hfz96_3, hfz96_4⟩ := c5_ BK351.out
         go_wp2
         go_meet
         case rel => exact ⟨_, (true), sm_, H', ⟨by first | omega | exact Nat.le_refl _⟩, ⟨rs_ (ty_ (ty_ HO293.out BK351.out) BK352.out)⟩, ⟨rs_ (ty_ (ty_ HO296.out BK351.out) BK352.out)⟩, ⟨rs_ (ty_ (ty_ HO302.out BK351.out) BK352.out)⟩, ⟨rs_ (ty_ (ty_ HO305.out BK351.out) BK352.out)⟩, ⟨rs_ (ty_ (ty_ HO316.out BK351.out) BK352.out)⟩, ⟨rs_ (ty_ (ty_ HO319.out BK351.out) BK352.out)⟩, ⟨rs_ (ty_ (ty_ HO325.out BK351.out) BK352.out)⟩, ⟨rs_ (ty_ (ty_ HO328.out BK351.out) BK352.out)⟩, ⟨rs_ (ty_ (ty_ HO337.out BK351.out) BK352.out)⟩, ⟨rs_ (ty_ (ty_ HO340.out BK351.out) BK352.out)⟩, ⟨rs_ (ty_ (ty_ HO346.out BK351.out) BK352.out)⟩, ⟨rs_ (ty_ (ty_ HO349.out BK351.out) BK352.out)⟩, ⟨bf_ BK285.out⟩, ⟨bf_ BK307.out⟩, ⟨bf_ BK308.out⟩, ⟨bf_ BK330.out⟩, ⟨bf_ BK331.out⟩, ⟨bp_ BK351.out⟩, ⟨bp_ BK352.out⟩, ⟨bl_⟩⟩
       ·rw [if_neg c69] at H
        have c69b0 : (t334 == 0) = false := beq_eq_false_iff_ne.mpr c69
        have c69b1 : (t334 != 0) = true := bne_iff_ne.mpr c69
        have H' := Aside0.mk H
        clear H
        have hnb97 := NB331_285.out
        have hnc97 := NB285_331.out
        have hnb98 := NB331_307.out
        have hnc98 := NB307_331.out
        have hnb99 := NB331_308.out
        have hnc99 := NB308_331.out
        have hnb100 := NB331_330.out
        have hnc100 := NB330_331.out
        have hnb101 := NB331_351.out
        have hnc101 := NB351_331.out
        have hnb102 := NB331_352.out
        have hnc102 := NB352_331.out
        obtain ⟨hcz103_0, hcz103_1, hcz103_2, hcz103_3, hcz103_4, hfz103_0, hfz103_1, hfz103_2, hfz103_3, hfz103_4⟩ := c5_ BK331.out
        have hnb104 := NB351_285.out
        have hnc104 := NB285_351.out
        have hnb105 := NB351_307.out
        have hnc105 := NB307_351.out
        have hnb106 := NB351_308.out
        have hnc106 := NB308_351.out
        have hnb107 := NB351_330.out
        have hnc107 := NB330_351.out
        have hnb108 := NB351_352.out
        have hnc108 := NB352_351.out
        obtain ⟨hcz109_0, hcz109_1, hcz109_2, hcz109_3, hcz109_4, hfz109_0, hfz109_1, hfz109_2, hfz109_3, hfz109_4⟩ := c5_ BK351.out
        go_wp2
        go_meet
        case rel => exact ⟨_, (true), sm_, H', ⟨by first | omega | exact Nat.le_refl _⟩, ⟨rs_ (ty_ (ty_ HO293.out BK351.out) BK352.out)⟩, ⟨rs_ (ty_ (ty_ HO296.out BK351.out) BK352.out)⟩, ⟨rs_ (ty_ (ty_ HO302.out BK351.out) BK352.out)⟩, ⟨rs_ (ty_ (ty_ HO305.out BK351.out) BK352.out)⟩, ⟨rs_ (ty_ (ty_ HO316.out BK351.out) BK352.out)⟩, ⟨rs_ (ty_ (ty_ HO319.out BK351.out) BK352.out)⟩, ⟨rs_ (ty_ (ty_ HO325.out BK351.out) BK352.out)⟩, ⟨rs_ (ty_ (ty_ HO328.out BK351.out) BK352.out)⟩, ⟨rs_ (ty_ (ty_ HO337.out BK351.out) BK352.out)⟩, ⟨rs_ (ty_ (ty_ HO340.out BK351.out) BK352.out)⟩, ⟨rs_ (ty_ (ty_ HO346.out BK351.out) BK352.out)⟩, ⟨rs_ (ty_ (ty_ HO349.out BK351.out) BK352.out)⟩, ⟨bf_ BK285.out⟩, ⟨bf_ BK307.out⟩, ⟨bf_ BK308.out⟩, ⟨bf_ BK330.out⟩, ⟨bf_ BK331.out⟩, ⟨bp_ BK351.out⟩, ⟨bp_ BK352.out⟩, ⟨bl_⟩⟩
      ·rw [if_neg c68] at H
       have c68b0 : (t322 == 0) = false := beq_eq_false_iff_ne.mpr c68
       have c68b1 : (t322 != 0) = true := bne_iff_ne.mpr c68
       have H' := Aside0.mk H
       clear H
       have hnb110 := NB331_285.out
       have hnc110 := NB285_331.out
       have hnb111 := NB331_307.out
       have hnc111 := NB307_331.out
       have hnb112 := NB331_308.out
       have hnc112 := NB308_331.out
       have hnb113 := NB331_330.out
       have hnc113 := NB330_331.out
       have hnb114 := NB331_351.out
       have hnc114 := NB351_331.out
       have hnb115 := NB331_352.out
       have hnc115 := NB352_331.out
       obtain ⟨hcz116_0, hcz116_1, hcz116_2, hcz116_3, hcz116_4, hfz116_0, hfz116_1, hfz116_2, hfz116_3, hfz116_4⟩ := c5_ BK331.out
       go_wp2
       go_meet
       case rel => exact ⟨_, (true), sm_, H', ⟨by first | omega | exact Nat.le_refl _⟩, ⟨rs_ (ty_ (ty_ HO293.out BK351.out) BK352.out)⟩, ⟨rs_ (ty_ (ty_ HO296.out BK351.out) BK352.out)⟩, ⟨rs_ (ty_ (ty_ HO302.out BK351.out) BK352.out)⟩, ⟨rs_ (ty_ (ty_ HO305.out BK351.out) BK352.out)⟩, ⟨rs_ (ty_ (ty_ HO316.out BK351.out) BK352.out)⟩, ⟨rs_ (ty_ (ty_ HO319.out BK351.out) BK352.out)⟩, ⟨rs_ (ty_ (ty_ HO325.out BK351.out) BK352.out)⟩, ⟨rs_ (ty_ (ty_ HO328.out BK351.out) BK352.out)⟩, ⟨rs_ (ty_ (ty_ HO337.out BK351.out) BK352.out)⟩, ⟨rs_ (ty_ (ty_ HO340.out BK351.out) BK352.out)⟩, ⟨rs_ (ty_ (ty_ HO346.out BK351.out) BK352.out)⟩, ⟨rs_ (ty_ (ty_ HO349.out BK351.out) BK352.out)⟩, ⟨bf_ BK285.out⟩, ⟨bf_ BK307.out⟩, ⟨bf_ BK308.out⟩, ⟨bf_ BK330.out⟩, ⟨bf_ BK331.out⟩, ⟨bp_ BK351.out⟩, ⟨bp_ BK352.out⟩, ⟨bl_⟩⟩
     ·rw [if_neg c67] at H
      have c67b0 : (t350 == 0) = false := beq_eq_false_iff_ne.mpr c67
      have c67b1 : (t350 != 0) = true := bne_iff_ne.mpr c67
      have H' := Aside0.mk H
      clear H
      go_wp2
      go_meet
      case rel => exact ⟨_, (true), sm_, H', ⟨by first | omega | exact Nat.le_refl _⟩, ⟨rs_ (ty_ (ty_ HO293.out BK351.out) BK352.out)⟩, ⟨rs_ (ty_ (ty_ HO296.out BK351.out) BK352.out)⟩, ⟨rs_ (ty_ (ty_ HO302.out BK351.out) BK352.out)⟩, ⟨rs_ (ty_ (ty_ HO305.out BK351.out) BK352.out)⟩, ⟨rs_ (ty_ (ty_ HO316.out BK351.out) BK352.out)⟩, ⟨rs_ (ty_ (ty_ HO319.out BK351.out) BK352.out)⟩, ⟨rs_ (ty_ (ty_ HO325.out BK351.out) BK352.out)⟩, ⟨rs_ (ty_ (ty_ HO328.out BK351.out) BK352.out)⟩, ⟨rs_ (ty_ (ty_ HO337.out BK351.out) BK352.out)⟩, ⟨rs_ (ty_ (ty_ HO340.out BK351.out) BK352.out)⟩, ⟨rs_ (ty_ (ty_ HO346.out BK351.out) BK352.out)⟩, ⟨rs_ (ty_ (ty_ HO349.out BK351.out) BK352.out)⟩, ⟨bf_ BK285.out⟩, ⟨bf_ BK307.out⟩, ⟨bf_ BK308.out⟩, ⟨bf_ BK330.out⟩, ⟨bf_ BK331.out⟩, ⟨bp_ BK351.out⟩, ⟨bp_ BK352.out⟩, ⟨bl_⟩⟩
    ·rw [if_neg c66] at H
     have c66b0 : (t329 == 0) = false := beq_eq_false_iff_ne.mpr c66
     have c66b1 : (t329 != 0) = true := bne_iff_ne.mpr c66
     (first | rw [c66b0] | (simp only [i64_w, i32_w]; rw [c66b0]) | skip)
     have H' := Aside0.mk H
     clear H
     go_wp2
     go_meet
     case rel => exact ⟨_, (true), sm_, H', ⟨by first | omega | exact Nat.le_refl _⟩, ⟨rs_ (ty_ (ty_ HO293.out BK351.out) BK352.out)⟩, ⟨rs_ (ty_ (ty_ HO296.out BK351.out) BK352.out)⟩, ⟨rs_ (ty_ (ty_ HO302.out BK351.out) BK352.out)⟩, ⟨rs_ (ty_ (ty_ HO305.out BK351.out) BK352.out)⟩, ⟨rs_ (ty_ (ty_ HO316.out BK351.out) BK352.out)⟩, ⟨rs_ (ty_ (ty_ HO319.out BK351.out) BK352.out)⟩, ⟨rs_ (ty_ (ty_ HO325.out BK351.out) BK352.out)⟩, ⟨rs_ (ty_ (ty_ HO328.out BK351.out) BK352.out)⟩, ⟨rs_ (ty_ (ty_ HO337.out BK351.out) BK352.out)⟩, ⟨rs_ (ty_ (ty_ HO340.out BK351.out) BK352.out)⟩, ⟨rs_ (ty_ (ty_ HO346.out BK351.out) BK352.out)⟩, ⟨rs_ (ty_ (ty_ HO349.out BK351.out) BK352.out)⟩, ⟨bf_ BK285.out⟩, ⟨bf_ BK307.out⟩, ⟨bf_ BK308.out⟩, ⟨bf_ BK330.out⟩, ⟨bf_ BK331.out⟩, ⟨bp_ BK351.out⟩, ⟨bp_ BK352.out⟩, ⟨bl_⟩⟩
   case rest =>
    clear HC10
    try clear c5; try clear c7; try clear c7b0; try clear c7b1; try clear hcz12_0; try clear hcz12_1; try clear hcz14_0; try clear hcz14_1; try clear hcz20_0; try clear hcz20_1; try clear hcz20_2; try clear hcz20_3; try clear hcz20_4; try clear hcz24_0; try clear hcz24_1; try clear hcz24_2; try clear hcz24_3; try clear hcz24_4; try clear hcz27_0; try clear hcz27_1; try clear hcz35_0; try clear hcz35_1
    try clear hcz35_2; try clear hcz35_3; try clear hcz35_4; try clear hcz41_0; try clear hcz41_1; try clear hcz41_2; try clear hcz41_3; try clear hcz41_4; try clear hcz44_0; try clear hcz44_1; try clear hcz45_0; try clear hcz45_1; try clear hcz45_2; try clear hcz45_3; try clear hcz45_4; try clear hcz55_0; try clear hcz55_1; try clear hcz55_2; try clear hcz55_3; try clear hcz55_4; try clear hcz63_0
    try clear hcz63_1; try clear hcz63_2; try clear hcz63_3; try clear hcz63_4; try clear hfz12_0; try clear hfz12_1; try clear hfz14_0; try clear hfz14_1; try clear hfz20_0; try clear hfz20_1; try clear hfz20_2; try clear hfz20_3; try clear hfz20_4; try clear hfz24_0; try clear hfz24_1; try clear hfz24_2; try clear hfz24_3; try clear hfz24_4; try clear hfz27_0; try clear hfz27_1; try clear hfz35_0
    try clear hfz35_1; try clear hfz35_2; try clear hfz35_3; try clear hfz35_4; try clear hfz41_0; try clear hfz41_1; try clear hfz41_2; try clear hfz41_3; try clear hfz41_4; try clear hfz44_0; try clear hfz44_1; try clear hfz45_0; try clear hfz45_1; try clear hfz45_2; try clear hfz45_3; try clear hfz45_4; try clear hfz55_0; try clear hfz55_1; try clear hfz55_2; try clear hfz55_3; try clear hfz55_4
    try clear hfz63_0; try clear hfz63_1; try clear hfz63_2; try clear hfz63_3; try clear hfz63_4
    obtain ⟨kq, x92_9, rfl, HA, HJ9, HO_308003, HO_308004, HO_309003, HO_309004, HO_331003, HO_331004, HO_332003, HO_332004, HO_352003, HO_352004, HO_353003, HO_353004, BK285, BK307, BK308, BK330, BK331, BK351, BK352, HB⟩ := hcut
    cases kq with
    | zero => exact absurd HA.out (by simp [paymasterlaw14_WithholdNone.j0])
    | succ kj9 =>
     have H := HA.out
     clear HA
     simp only [paymasterlaw14_WithholdNone.j0] at H
     by_cases c117 : x92_9 = true
     ·subst c117
      rw [if_pos rfl] at H
      exact absurd H (by simp)
     ·replace c117 := Bool.eq_false_iff.mpr c117
      subst c117
      rw [if_neg (show ¬ (false = true) by decide)] at H
      obtain ⟨y353, hy353⟩ : ∃ y_ : List Int, y_ = (([] : List Int)) := ⟨_, rfl⟩
      replace H : (if y353.length + t323.length < 17592186044416 then ((some (y353 ++ t323 : List Int)).bind fun y356 => (if y356.length + t326.length < 17592186044416 then ((some (y356 ++ t326 : List Int)).bind fun y359 => ((some (([] : List Int) : List Int)).bind fun y362 => (if y362.length + t335.length < 17592186044416 then ((some (y362 ++ t335 : List Int)).bind fun y365 => (if y365.length + t338.length < 17592186044416 then ((some (y365 ++ t338 : List Int)).bind fun y368 => (if y359.length + y368.length < 17592186044416 then ((some (y359 ++ y368 : List Int)).bind fun y371 => (paymasterlaw14_WithholdNone.l0 kj9 y371 (y371.length : Int) 0 t288 t289 t290 t291 t294 t311 t312 t313 t314 t317)) else (none))) else (none))) else (none)))) else (none))) else (none)) = some r := by first | (rw [hy353]; with_reducible exact H) | (have H2_ := (Option.bind_some _ _).symm.trans H; rw [hy353]; with_reducible exact H2_) | (have H2_ := (Option.bind_some _ _).symm.trans H; with_reducible exact H2_) | with_reducible exact H | (rw [hy353]; exact H) | exact H
      have Ny353 := Aside0.mk hy353
      clear hy353
      by_cases c118 : y353.length + t323.length < 17592186044416
      ·rw [if_pos c118] at H
       have LMc118 := Aside0.mk c118
       clear c118
       obtain ⟨y356, hy356⟩ : ∃ y_ : List Int, y_ = (y353 ++ t323) := ⟨_, rfl⟩
       replace H : (if y356.length + t326.length < 17592186044416 then ((some (y356 ++ t326 : List Int)).bind fun y359 => ((some (([] : List Int) : List Int)).bind fun y362 => (if y362.length + t335.length < 17592186044416 then ((some (y362 ++ t335 : List Int)).bind fun y365 => (if y365.length + t338.length < 17592186044416 then ((some (y365 ++ t338 : List Int)).bind fun y368 => (if y359.length + y368.length < 17592186044416 then ((some (y359 ++ y368 : List Int)).bind fun y371 => (paymasterlaw14_WithholdNone.l0 kj9 y371 (y371.length : Int) 0 t288 t289 t290 t291 t294 t311 t312 t313 t314 t317)) else (none))) else (none))) else (none)))) else (none)) = some r := by first | (rw [hy356]; with_reducible exact H) | (have H2_ := (Option.bind_some _ _).symm.trans H; rw [hy356]; with_reducible exact H2_) | (have H2_ := (Option.bind_some _ _).symm.trans H; with_reducible exact H2_) | with_reducible exact H | (rw [hy356]; exact H) | exact H
       have Ny356 := Aside0.mk hy356
       clear hy356
       by_cases c119 : y356.length + t326.length < 17592186044416
       ·rw [if_pos c119] at H
        have LMc119 := Aside0.mk c119
        clear c119
        obtain ⟨y359, hy359⟩ : ∃ y_ : List Int, y_ = (y356 ++ t326) := ⟨_, rfl⟩
        replace H : ((some (([] : List Int) : List Int)).bind fun y362 => (if y362.length + t335.length < 17592186044416 then ((some (y362 ++ t335 : List Int)).bind fun y365 => (if y365.length + t338.length < 17592186044416 then ((some (y365 ++ t338 : List Int)).bind fun y368 => (if y359.length + y368.length < 17592186044416 then ((some (y359 ++ y368 : List Int)).bind fun y371 => (paymasterlaw14_WithholdNone.l0 kj9 y371 (y371.length : Int) 0 t288 t289 t290 t291 t294 t311 t312 t313 t314 t317)) else (none))) else (none))) else (none))) = some r := by first | (rw [hy359]; with_reducible exact H) | (have H2_ := (Option.bind_some _ _).symm.trans H; rw [hy359]; with_reducible exact H2_) | (have H2_ := (Option.bind_some _ _).symm.trans H; with_reducible exact H2_) | with_reducible exact H | (rw [hy359]; exact H) | exact H
        have Ny359 := Aside0.mk hy359
        clear hy359
        obtain ⟨y362, hy362⟩ : ∃ y_ : List Int, y_ = (([] : List Int)) := ⟨_, rfl⟩
        replace H : (if y362.length + t335.length < 17592186044416 then ((some (y362 ++ t335 : List Int)).bind fun y365 => (if y365.length + t338.length < 17592186044416 then ((some (y365 ++ t338 : List Int)).bind fun y368 => (if y359.length + y368.length < 17592186044416 then ((some (y359 ++ y368 : List Int)).bind fun y371 => (paymasterlaw14_WithholdNone.l0 kj9 y371 (y371.length : Int) 0 t288 t289 t290 t291 t294 t311 t312 t313 t314 t317)) else (none))) else (none))) else (none)) = some r := by first | (rw [hy362]; with_reducible exact H) | (have H2_ := (Option.bind_some _ _).symm.trans H; rw [hy362]; with_reducible exact H2_) | (have H2_ := (Option.bind_some _ _).symm.trans H; with_reducible exact H2_) | with_reducible exact H | (rw [hy362]; exact H) | exact H
        have Ny362 := Aside0.mk hy362
        clear hy362
        by_cases c120 : y362.length + t335.length < 17592186044416
        ·rw [if_pos c120] at H
         have LMc120 := Aside0.mk c120
         clear c120
         obtain ⟨y365, hy365⟩ : ∃ y_ : List Int, y_ = (y362 ++ t335) := ⟨_, rfl⟩
         replace H : (if y365.length + t338.length < 17592186044416 then ((some (y365 ++ t338 : List Int)).bind fun y368 => (if y359.length + y368.length < 17592186044416 then ((some (y359 ++ y368 : List Int)).bind fun y371 => (paymasterlaw14_WithholdNone.l0 kj9 y371 (y371.length : Int) 0 t288 t289 t290 t291 t294 t311 t312 t313 t314 t317)) else (none))) else (none)) = some r := by first | (rw [hy365]; with_reducible exact H) | (have H2_ := (Option.bind_some _ _).symm.trans H; rw [hy365]; with_reducible exact H2_) | (have H2_ := (Option.bind_some _ _).symm.trans H; with_reducible exact H2_) | with_reducible exact H | (rw [hy365]; exact H) | exact H
         have Ny365 := Aside0.mk hy365
         clear hy365
         by_cases c121 : y365.length + t338.length < 17592186044416
         ·rw [if_pos c121] at H
          have LMc121 := Aside0.mk c121
          clear c121
          obtain ⟨y368, hy368⟩ : ∃ y_ : List Int, y_ = (y365 ++ t338) := ⟨_, rfl⟩
          replace H : (if y359.length + y368.length < 17592186044416 then ((some (y359 ++ y368 : List Int)).bind fun y371 => (paymasterlaw14_WithholdNone.l0 kj9 y371 (y371.length : Int) 0 t288 t289 t290 t291 t294 t311 t312 t313 t314 t317)) else (none)) = some r := by first | (rw [hy368]; with_reducible exact H) | (have H2_ := (Option.bind_some _ _).symm.trans H; rw [hy368]; with_reducible exact H2_) | (have H2_ := (Option.bind_some _ _).symm.trans H; with_reducible exact H2_) | with_reducible exact H | (rw [hy368]; exact H) | exact H
          have Ny368 := Aside0.mk hy368
          clear hy368
          by_cases c122 : y359.length + y368.length < 17592186044416
          ·rw [if_pos c122] at H
           have LMc122 := Aside0.mk c122
           clear c122
           obtain ⟨y371, hy371⟩ : ∃ y_ : List Int, y_ = (y359 ++ y368) := ⟨_, rfl⟩
           replace H : (paymasterlaw14_WithholdNone.l0 kj9 y371 (y371.length : Int) 0 t288 t289 t290 t291 t294 t311 t312 t313 t314 t317) = some r := by first | (rw [hy371]; with_reducible exact H) | (have H2_ := (Option.bind_some _ _).symm.trans H; rw [hy371]; with_reducible exact H2_) | (have H2_ := (Option.bind_some _ _).symm.trans H; with_reducible exact H2_) | with_reducible exact H | (rw [hy371]; exact H) | exact H
           have Ny371 := Aside0.mk hy371
           clear hy371
           have H' := Aside0.mk H
           clear H
           try go_wp2
           replace HO_308003 := Aside0.mk (Kd.R_drew HO_308003.out)
           replace HO_308004 := Aside0.mk (Kd.R_drew HO_308004.out)
           replace HO_309003 := Aside0.mk (Kd.R_drew HO_309003.out)
           replace HO_309004 := Aside0.mk (Kd.R_drew HO_309004.out)
           replace HO_331003 := Aside0.mk (Kd.R_drew HO_331003.out)
           replace HO_331004 := Aside0.mk (Kd.R_drew HO_331004.out)
           replace HO_332003 := Aside0.mk (Kd.R_drew HO_332003.out)
           replace HO_332004 := Aside0.mk (Kd.R_drew HO_332004.out)
           replace HO_352003 := Aside0.mk (Kd.R_drew HO_352003.out)
           replace HO_352004 := Aside0.mk (Kd.R_drew HO_352004.out)
           replace HO_353003 := Aside0.mk (Kd.R_drew HO_353003.out)
           replace HO_353004 := Aside0.mk (Kd.R_drew HO_353004.out)
           replace BK285 := Aside0.mk (blk_drew BK285.out)
           replace BK307 := Aside0.mk (blk_drew BK307.out)
           replace BK308 := Aside0.mk (blk_drew BK308.out)
           replace BK330 := Aside0.mk (blk_drew BK330.out)
           replace BK331 := Aside0.mk (blk_drew BK331.out)
           replace BK351 := Aside0.mk (blk_drew BK351.out)
           replace BK352 := Aside0.mk (blk_drew BK352.out)
           replace HB := Aside0.mk (below_drew1 HB.out)
           refine start_ (n := 17) (S := fun w' => w'.cell? ⟨gb331, 0, none⟩ = some (.int .i64 t320) ∧ w'.cell? ⟨gb331, 1, none⟩ = some (.int .i64 t321) ∧ w'.cell? ⟨gb331, 2, none⟩ = some (.int .i64 t322) ∧ w'.cell? ⟨gb331, 3, none⟩ = some (.slice Ao42 t323.length co42) ∧ w'.cell? ⟨gb331, 4, none⟩ = some (.slice Ao43 t326.length co43) ∧ w'.cell? ⟨gb351, 0, none⟩ = some (.int .i64 t332) ∧ w'.cell? ⟨gb351, 1, none⟩ = some (.int .i64 t333) ∧ w'.cell? ⟨gb351, 2, none⟩ = some (.int .i64 t334) ∧ w'.cell? ⟨gb351, 3, none⟩ = some (.slice Ao56 t335.length co56) ∧ w'.cell? ⟨gb351, 4, none⟩ = some (.slice Ao57 t338.length co57)) (ds := []) #[false, false, false, false, false, false, false, false, false, false, false, false, false, false, false, false, false] (by kernel_rfl) rfl rfl ⟨(blk_cell BK331.out 0).trans rfl, (blk_cell BK331.out 1).trans rfl, (blk_cell BK331.out 2).trans rfl, (blk_cell BK331.out 3).trans rfl, (blk_cell BK331.out 4).trans rfl, (blk_cell BK351.out 0).trans rfl, (blk_cell BK351.out 1).trans rfl, (blk_cell BK351.out 2).trans rfl, (blk_cell BK351.out 3).trans rfl, (blk_cell BK351.out 4).trans rfl⟩ (fun hHeld => ?_); refine with_tabW paymasterlaw14_WithholdNone.tab11 paymasterlaw14_WithholdNone.bits11 (fun HT_ HW_ => ?_)
           generalize wc.drew = w123 at HO_308003 HO_308004 HO_309003 HO_309004 HO_331003 HO_331004 HO_332003 HO_332004 HO_352003 HO_352004 HO_353003 HO_353004 BK285 BK307 BK308 BK330 BK331 BK351 BK352 HB hHeld ⊢
           refine pure_ (i := 1) (N := some 94) (v := ?_) (a' := ?_) #[false, true, false, false, false, false, false, false, false, false, false, false, false, false, false, false, false] rfl rfl (any_of HT_.out (by kernel_rfl)) (fun _ _ _ h => h) (Or.inl ⟨by rfl, ?_⟩) ?_ ?_
           rotate_left
           ·intro w'
            go_simp
            with_reducible rfl
           rotate_left
           ·simp only [Act.put, List.setIfInBounds_toArray, List.set_cons_zero, List.set_cons_succ, i64_w, i32_w]
            rfl
           refine pure_ (i := 4) (N := some 97) (v := ?_) (a' := ?_) #[false, true, false, false, true, false, false, false, false, false, false, false, false, false, false, false, false] rfl rfl (any_of HT_.out (by kernel_rfl)) (fun _ _ _ h => h) (Or.inl ⟨by rfl, ?_⟩) ?_ ?_
           rotate_left
           ·intro w'
            go_simp
            with_reducible rfl
           rotate_left
           ·simp only [Act.put, List.setIfInBounds_toArray, List.set_cons_zero, List.set_cons_succ, i64_w, i32_w]
            rfl
           refine pure_ (i := 8) (N := some 101) (v := ?_) (a' := ?_) #[false, true, false, false, true, false, false, false, true, false, false, false, false, false, false, false, false] rfl rfl (any_of HT_.out (by kernel_rfl)) (fun _ _ _ h => h) (Or.inl ⟨by rfl, ?_⟩) ?_ ?_
           rotate_left
           ·intro w'
            go_simp
            with_reducible rfl
           rotate_left
           ·simp only [Act.put, List.setIfInBounds_toArray, List.set_cons_zero, List.set_cons_succ, i64_w, i32_w]
            rfl
           refine pure_ (i := 11) (N := some 104) (v := ?_) (a' := ?_) #[false, true, false, false, true, false, false, false, true, false, false, true, false, false, false, false, false] rfl rfl (any_of HT_.out (by kernel_rfl)) (fun _ _ _ h => h) (Or.inl ⟨by rfl, ?_⟩) ?_ ?_
           rotate_left
           ·intro w'
            go_simp
            with_reducible rfl
           rotate_left
           ·simp only [Act.put, List.setIfInBounds_toArray, List.set_cons_zero, List.set_cons_succ, i64_w, i32_w]
            rfl
           refine pure_ (i := 16) (N := some 109) (v := ?_) (a' := ?_) #[false, true, false, false, true, false, false, false, true, false, false, true, false, false, false, false, true] rfl rfl (any_of HT_.out (by kernel_rfl)) (fun _ _ _ h => h) (Or.inl ⟨by rfl, ?_⟩) ?_ ?_
           rotate_left
           ·intro w'
            go_simp
            with_reducible rfl
           rotate_left
           ·simp only [Act.put, List.setIfInBounds_toArray, List.set_cons_zero, List.set_cons_succ, i64_w, i32_w]
            rfl
           refine take_ (i := 2) (N := some 95) (v := ?_) (a' := ?_) #[false, true, true, false, true, false, false, false, true, false, false, true, false, false, false, false, true] rfl rfl (take_ofW HT_.out HW_.out (by kernel_rfl)) (fun _ _ _ h => h) (Or.inl ⟨by rfl, ?_⟩) hHeld ?_ ?_
           rotate_left
           ·rintro w' ⟨s0, s1, s2, s3, s4, s5, s6, s7, s8, s9⟩
            go_simp
            with_reducible rfl
           rotate_left
           ·simp only [Act.put, List.setIfInBounds_toArray, List.set_cons_zero, List.set_cons_succ, i64_w, i32_w]
            rfl
           refine take_ (i := 5) (N := some 98) (v := ?_) (a' := ?_) #[false, true, true, false, true, true, false, false, true, false, false, true, false, false, false, false, true] rfl rfl (take_ofW HT_.out HW_.out (by kernel_rfl)) (fun _ _ _ h => h) (Or.inl ⟨by rfl, ?_⟩) hHeld ?_ ?_
           rotate_left
           ·rintro w' ⟨s0, s1, s2, s3, s4, s5, s6, s7, s8, s9⟩
            go_simp
            with_reducible rfl
           rotate_left
           ·simp only [Act.put, List.setIfInBounds_toArray, List.set_cons_zero, List.set_cons_succ, i64_w, i32_w]
            rfl
           refine take_ (i := 9) (N := some 102) (v := ?_) (a' := ?_) #[false, true, true, false, true, true, false, false, true, true, false, true, false, false, false, false, true] rfl rfl (take_ofW HT_.out HW_.out (by kernel_rfl)) (fun _ _ _ h => h) (Or.inl ⟨by rfl, ?_⟩) hHeld ?_ ?_
           rotate_left
           ·rintro w' ⟨s0, s1, s2, s3, s4, s5, s6, s7, s8, s9⟩
            go_simp
            with_reducible rfl
           rotate_left
           ·simp only [Act.put, List.setIfInBounds_toArray, List.set_cons_zero, List.set_cons_succ, i64_w, i32_w]
            rfl
           refine take_ (i := 12) (N := some 105) (v := ?_) (a' := ?_) #[false, true, true, false, true, true, false, false, true, true, false, true, true, false, false, false, true] rfl rfl (take_ofW HT_.out HW_.out (by kernel_rfl)) (fun _ _ _ h => h) (Or.inl ⟨by rfl, ?_⟩) hHeld ?_ ?_
           rotate_left
           ·rintro w' ⟨s0, s1, s2, s3, s4, s5, s6, s7, s8, s9⟩
            go_simp
            with_reducible rfl
           rotate_left
           ·simp only [Act.put, List.setIfInBounds_toArray, List.set_cons_zero, List.set_cons_succ, i64_w, i32_w]
            rfl
           refine join_ (σ := Value × Value × Value × Value) 4 #[true, true, true, true, true, true, true, true, true, true, false, true, true, false, false, false, true] (fun s_ => [(93, s_.1), (96, s_.2.1), (99, s_.2.2.1), (100, s_.2.2.2)]) (fun s_ w' => (w'.cell? ⟨gb331, 0, none⟩ = some (.int .i64 t320) ∧ w'.cell? ⟨gb331, 1, none⟩ = some (.int .i64 t321) ∧ w'.cell? ⟨gb331, 2, none⟩ = some (.int .i64 t322) ∧ w'.cell? ⟨gb331, 3, none⟩ = some (.slice Ao42 t323.length co42) ∧ w'.cell? ⟨gb331, 4, none⟩ = some (.slice Ao43 t326.length co43) ∧ w'.cell? ⟨gb351, 0, none⟩ = some (.int .i64 t332) ∧ w'.cell? ⟨gb351, 1, none⟩ = some (.int .i64 t333) ∧ w'.cell? ⟨gb351, 2, none⟩ = some (.int .i64 t334) ∧ w'.cell? ⟨gb351, 3, none⟩ = some (.slice Ao56 t335.length co56) ∧ w'.cell? ⟨gb351, 4, none⟩ = some (.slice Ao57 t338.length co57)) ∧ (Kd.R (Kd.int .i64) 3 w' w.heap.size (fun k_ => some k_ ≠ (s_.2.2.2 : Value).ownBlock ∧ some k_ ≠ (.slice Ao21 t291.length co21 : Value).ownBlock ∧ some k_ ≠ (.slice Ao22 t294.length co22 : Value).ownBlock ∧ some k_ ≠ (.slice Ao25 t300.length co25 : Value).ownBlock ∧ some k_ ≠ (.slice Ao26 t303.length co26 : Value).ownBlock ∧ some k_ ≠ (.slice Ao36 t314.length co36 : Value).ownBlock ∧ some k_ ≠ (.slice Ao37 t317.length co37 : Value).ownBlock ∧ some k_ ≠ (.slice Ao42 t323.length co42 : Value).ownBlock ∧ some k_ ≠ (.slice Ao43 t326.length co43 : Value).ownBlock ∧ some k_ ≠ (.slice Ao56 t335.length co56 : Value).ownBlock ∧ some k_ ≠ (.slice Ao57 t338.length co57 : Value).ownBlock ∧ some k_ ≠ (.slice Ao64 t344.length co64 : Value).ownBlock ∧ some k_ ≠ (.slice Ao65 t347.length co65 : Value).ownBlock) s_.2.2.1 y359) ∧ (Kd.R (Kd.int .i64) 3 w' w.heap.size (fun k_ => some k_ ≠ (s_.2.2.1 : Value).ownBlock ∧ some k_ ≠ (.slice Ao21 t291.length co21 : Value).ownBlock ∧ some k_ ≠ (.slice Ao22 t294.length co22 : Value).ownBlock ∧ some k_ ≠ (.slice Ao25 t300.length co25 : Value).ownBlock ∧ some k_ ≠ (.slice Ao26 t303.length co26 : Value).ownBlock ∧ some k_ ≠ (.slice Ao36 t314.length co36 : Value).ownBlock ∧ some k_ ≠ (.slice Ao37 t317.length co37 : Value).ownBlock ∧ some k_ ≠ (.slice Ao42 t323.length co42 : Value).ownBlock ∧ some k_ ≠ (.slice Ao43 t326.length co43 : Value).ownBlock ∧ some k_ ≠ (.slice Ao56 t335.length co56 : Value).ownBlock ∧ some k_ ≠ (.slice Ao57 t338.length co57 : Value).ownBlock ∧ some k_ ≠ (.slice Ao64 t344.length co64 : Value).ownBlock ∧ some k_ ≠ (.slice Ao65 t347.length co65 : Value).ownBlock) s_.2.2.2 y362) ∧ (Kd.R (Kd.int .i64) 3 w' w.heap.size (fun k_ => some k_ ≠ (s_.2.2.1 : Value).ownBlock ∧ some k_ ≠ (s_.2.2.2 : Value).ownBlock ∧ some k_ ≠ (.slice Ao22 t294.length co22 : Value).ownBlock ∧ some k_ ≠ (.slice Ao25 t300.length co25 : Value).ownBlock ∧ some k_ ≠ (.slice Ao26 t303.length co26 : Value).ownBlock ∧ some k_ ≠ (.slice Ao36 t314.length co36 : Value).ownBlock ∧ some k_ ≠ (.slice Ao37 t317.length co37 : Value).ownBlock ∧ some k_ ≠ (.slice Ao42 t323.length co42 : Value).ownBlock ∧ some k_ ≠ (.slice Ao43 t326.length co43 : Value).ownBlock ∧ some k_ ≠ (.slice Ao56 t335.length co56 : Value).ownBlock ∧ some k_ ≠ (.slice Ao57 t338.length co57 : Value).ownBlock ∧ some k_ ≠ (.slice Ao64 t344.length co64 : Value).ownBlock ∧ some k_ ≠ (.slice Ao65 t347.length co65 : Value).ownBlock) (.slice Ao21 t291.length co21) t291) ∧ (Kd.R (Kd.int .i64) 3 w' w.heap.size (fun k_ => some k_ ≠ (s_.2.2.1 : Value).ownBlock ∧ some k_ ≠ (s_.2.2.2 : Value).ownBlock ∧ some k_ ≠ (.slice Ao21 t291.length co21 : Value).ownBlock ∧ some k_ ≠ (.slice Ao25 t300.length co25 : Value).ownBlock ∧ some k_ ≠ (.slice Ao26 t303.length co26 : Value).ownBlock ∧ some k_ ≠ (.slice Ao36 t314.length co36 : Value).ownBlock ∧ some k_ ≠ (.slice Ao37 t317.length co37 : Value).ownBlock ∧ some k_ ≠ (.slice Ao42 t323.length co42 : Value).ownBlock ∧ some k_ ≠ (.slice Ao43 t326.length co43 : Value).ownBlock ∧ some k_ ≠ (.slice Ao56 t335.length co56 : Value).ownBlock ∧ some k_ ≠ (.slice Ao57 t338.length co57 : Value).ownBlock ∧ some k_ ≠ (.slice Ao64 t344.length co64 : Value).ownBlock ∧ some k_ ≠ (.slice Ao65 t347.length co65 : Value).ownBlock) (.slice Ao22 t294.length co22) t294) ∧ (Kd.R (Kd.int .i64) 3 w' w.heap.size (fun k_ => some k_ ≠ (s_.2.2.1 : Value).ownBlock ∧ some k_ ≠ (s_.2.2.2 : Value).ownBlock ∧ some k_ ≠ (.slice Ao21 t291.length co21 : Value).ownBlock ∧ some k_ ≠ (.slice Ao22 t294.length co22 : Value).ownBlock ∧ some k_ ≠ (.slice Ao26 t303.length co26 : Value).ownBlock ∧ some k_ ≠ (.slice Ao36 t314.length co36 : Value).ownBlock ∧ some k_ ≠ (.slice Ao37 t317.length co37 : Value).ownBlock ∧ some k_ ≠ (.slice Ao42 t323.length co42 : Value).ownBlock ∧ some k_ ≠ (.slice Ao43 t326.length co43 : Value).ownBlock ∧ some k_ ≠ (.slice Ao56 t335.length co56 : Value).ownBlock ∧ some k_ ≠ (.slice Ao57 t338.length co57 : Value).ownBlock ∧ some k_ ≠ (.slice Ao64 t344.length co64 : Value).ownBlock ∧ some k_ ≠ (.slice Ao65 t347.length co65 : Value).ownBlock) (.slice Ao25 t300.length co25) t300) ∧ (Kd.R (Kd.int .i64) 3 w' w.heap.size (fun k_ => some k_ ≠ (s_.2.2.1 : Value).ownBlock ∧ some k_ ≠ (s_.2.2.2 : Value).ownBlock ∧ some k_ ≠ (.slice Ao21 t291.length co21 : Value).ownBlock ∧ some k_ ≠ (.slice Ao22 t294.length co22 : Value).ownBlock ∧ some k_ ≠ (.slice Ao25 t300.length co25 : Value).ownBlock ∧ some k_ ≠ (.slice Ao36 t314.length co36 : Value).ownBlock ∧ some k_ ≠ (.slice Ao37 t317.length co37 : Value).ownBlock ∧ some k_ ≠ (.slice Ao42 t323.length co42 : Value).ownBlock ∧ some k_ ≠ (.slice Ao43 t326.length co43 : Value).ownBlock ∧ some k_ ≠ (.slice Ao56 t335.length co56 : Value).ownBlock ∧ some k_ ≠ (.slice Ao57 t338.length co57 : Value).ownBlock ∧ some k_ ≠ (.slice Ao64 t344.length co64 : Value).ownBlock ∧ some k_ ≠ (.slice Ao65 t347.length co65 : Value).ownBlock) (.slice Ao26 t303.length co26) t303) ∧ (Kd.R (Kd.int .i64) 3 w' w.heap.size (fun k_ => some k_ ≠ (s_.2.2.1 : Value).ownBlock ∧ some k_ ≠ (s_.2.2.2 : Value).ownBlock ∧ some k_ ≠ (.slice Ao21 t291.length co21 : Value).ownBlock ∧ some k_ ≠ (.slice Ao22 t294.length co22 : Value).ownBlock ∧ some k_ ≠ (.slice Ao25 t300.length co25 : Value).ownBlock ∧ some k_ ≠ (.slice Ao26 t303.length co26 : Value).ownBlock ∧ some k_ ≠ (.slice Ao37 t317.length co37 : Value).ownBlock ∧ some k_ ≠ (.slice Ao42 t323.length co42 : Value).ownBlock ∧ some k_ ≠ (.slice Ao43 t326.length co43 : Value).ownBlock ∧ some k_ ≠ (.slice Ao56 t335.length co56 : Value).ownBlock ∧ some k_ ≠ (.slice Ao57 t338.length co57 : Value).ownBlock ∧ some k_ ≠ (.slice Ao64 t344.length co64 : Value).ownBlock ∧ some k_ ≠ (.slice Ao65 t347.length co65 : Value).ownBlock) (.slice Ao36 t314.length co36) t314) ∧ (Kd.R (Kd.int .i64) 3 w' w.heap.size (fun k_ => some k_ ≠ (s_.2.2.1 : Value).ownBlock ∧ some k_ ≠ (s_.2.2.2 : Value).ownBlock ∧ some k_ ≠ (.slice Ao21 t291.length co21 : Value).ownBlock ∧ some k_ ≠ (.slice Ao22 t294.length co22 : Value).ownBlock ∧ some k_ ≠ (.slice Ao25 t300.length co25 : Value).ownBlock ∧ some k_ ≠ (.slice Ao26 t303.length co26 : Value).ownBlock ∧ some k_ ≠ (.slice Ao36 t314.length co36 : Value).ownBlock ∧ some k_ ≠ (.slice Ao42 t323.length co42 : Value).ownBlock ∧ some k_ ≠ (.slice Ao43 t326.length co43 : Value).ownBlock ∧ some k_ ≠ (.slice Ao56 t335.length co56 : Value).ownBlock ∧ some k_ ≠ (.slice Ao57 t338.length co57 : Value).ownBlock ∧ some k_ ≠ (.slice Ao64 t344.length co64 : Value).ownBlock ∧ some k_ ≠ (.slice Ao65 t347.length co65 : Value).ownBlock) (.slice Ao37 t317.length co37) t317) ∧ (Kd.R (Kd.int .i64) 3 w' w.heap.size (fun k_ => some k_ ≠ (s_.2.2.1 : Value).ownBlock ∧ some k_ ≠ (s_.2.2.2 : Value).ownBlock ∧ some k_ ≠ (.slice Ao21 t291.length co21 : Value).ownBlock ∧ some k_ ≠ (.slice Ao22 t294.length co22 : Value).ownBlock ∧ some k_ ≠ (.slice Ao25 t300.length co25 : Value).ownBlock ∧ some k_ ≠ (.slice Ao26 t303.length co26 : Value).ownBlock ∧ some k_ ≠ (.slice Ao36 t314.length co36 : Value).ownBlock ∧ some k_ ≠ (.slice Ao37 t317.length co37 : Value).ownBlock ∧ some k_ ≠ (.slice Ao43 t326.length co43 : Value).ownBlock ∧ some k_ ≠ (.slice Ao56 t335.length co56 : Value).ownBlock ∧ some k_ ≠ (.slice Ao57 t338.length co57 : Value).ownBlock ∧ some k_ ≠ (.slice Ao64 t344.length co64 : Value).ownBlock ∧ some k_ ≠ (.slice Ao65 t347.length co65 : Value).ownBlock) (.slice Ao42 t323.length co42) t323) ∧ (Kd.R (Kd.int .i64) 3 w' w.heap.size (fun k_ => some k_ ≠ (s_.2.2.1 : Value).ownBlock ∧ some k_ ≠ (s_.2.2.2 : Value).ownBlock ∧ some k_ ≠ (.slice Ao21 t291.length co21 : Value).ownBlock ∧ some k_ ≠ (.slice Ao22 t294.length co22 : Value).ownBlock ∧ some k_ ≠ (.slice Ao25 t300.length co25 : Value).ownBlock ∧ some k_ ≠ (.slice Ao26 t303.length co26 : Value).ownBlock ∧ some k_ ≠ (.slice Ao36 t314.length co36 : Value).ownBlock ∧ some k_ ≠ (.slice Ao37 t317.length co37 : Value).ownBlock ∧ some k_ ≠ (.slice Ao42 t323.length co42 : Value).ownBlock ∧ some k_ ≠ (.slice Ao56 t335.length co56 : Value).ownBlock ∧ some k_ ≠ (.slice Ao57 t338.length co57 : Value).ownBlock ∧ some k_ ≠ (.slice Ao64 t344.length co64 : Value).ownBlock ∧ some k_ ≠ (.slice Ao65 t347.length co65 : Value).ownBlock) (.slice Ao43 t326.length co43) t326) ∧ (Kd.R (Kd.int .i64) 3 w' w.heap.size (fun k_ => some k_ ≠ (s_.2.2.1 : Value).ownBlock ∧ some k_ ≠ (s_.2.2.2 : Value).ownBlock ∧ some k_ ≠ (.slice Ao21 t291.length co21 : Value).ownBlock ∧ some k_ ≠ (.slice Ao22 t294.length co22 : Value).ownBlock ∧ some k_ ≠ (.slice Ao25 t300.length co25 : Value).ownBlock ∧ some k_ ≠ (.slice Ao26 t303.length co26 : Value).ownBlock ∧ some k_ ≠ (.slice Ao36 t314.length co36 : Value).ownBlock ∧ some k_ ≠ (.slice Ao37 t317.length co37 : Value).ownBlock ∧ some k_ ≠ (.slice Ao42 t323.length co42 : Value).ownBlock ∧ some k_ ≠ (.slice Ao43 t326.length co43 : Value).ownBlock ∧ some k_ ≠ (.slice Ao57 t338.length co57 : Value).ownBlock ∧ some k_ ≠ (.slice Ao64 t344.length co64 : Value).ownBlock ∧ some k_ ≠ (.slice Ao65 t347.length co65 : Value).ownBlock) (.slice Ao56 t335.length co56) t335) ∧ (Kd.R (Kd.int .i64) 3 w' w.heap.size (fun k_ => some k_ ≠ (s_.2.2.1 : Value).ownBlock ∧ some k_ ≠ (s_.2.2.2 : Value).ownBlock ∧ some k_ ≠ (.slice Ao21 t291.length co21 : Value).ownBlock ∧ some k_ ≠ (.slice Ao22 t294.length co22 : Value).ownBlock ∧ some k_ ≠ (.slice Ao25 t300.length co25 : Value).ownBlock ∧ some k_ ≠ (.slice Ao26 t303.length co26 : Value).ownBlock ∧ some k_ ≠ (.slice Ao36 t314.length co36 : Value).ownBlock ∧ some k_ ≠ (.slice Ao37 t317.length co37 : Value).ownBlock ∧ some k_ ≠ (.slice Ao42 t323.length co42 : Value).ownBlock ∧ some k_ ≠ (.slice Ao43 t326.length co43 : Value).ownBlock ∧ some k_ ≠ (.slice Ao56 t335.length co56 : Value).ownBlock ∧ some k_ ≠ (.slice Ao64 t344.length co64 : Value).ownBlock ∧ some k_ ≠ (.slice Ao65 t347.length co65 : Value).ownBlock) (.slice Ao57 t338.length co57) t338) ∧ (Kd.R (Kd.int .i64) 3 w' w.heap.size (fun k_ => some k_ ≠ (s_.2.2.1 : Value).ownBlock ∧ some k_ ≠ (s_.2.2.2 : Value).ownBlock ∧ some k_ ≠ (.slice Ao21 t291.length co21 : Value).ownBlock ∧ some k_ ≠ (.slice Ao22 t294.length co22 : Value).ownBlock ∧ some k_ ≠ (.slice Ao25 t300.length co25 : Value).ownBlock ∧ some k_ ≠ (.slice Ao26 t303.length co26 : Value).ownBlock ∧ some k_ ≠ (.slice Ao36 t314.length co36 : Value).ownBlock ∧ some k_ ≠ (.slice Ao37 t317.length co37 : Value).ownBlock ∧ some k_ ≠ (.slice Ao42 t323.length co42 : Value).ownBlock ∧ some k_ ≠ (.slice Ao43 t326.length co43 : Value).ownBlock ∧ some k_ ≠ (.slice Ao56 t335.length co56 : Value).ownBlock ∧ some k_ ≠ (.slice Ao57 t338.length co57 : Value).ownBlock ∧ some k_ ≠ (.slice Ao65 t347.length co65 : Value).ownBlock) (.slice Ao64 t344.length co64) t344) ∧ (Kd.R (Kd.int .i64) 3 w' w.heap.size (fun k_ => some k_ ≠ (s_.2.2.1 : Value).ownBlock ∧ some k_ ≠ (s_.2.2.2 : Value).ownBlock ∧ some k_ ≠ (.slice Ao21 t291.length co21 : Value).ownBlock ∧ some k_ ≠ (.slice Ao22 t294.length co22 : Value).ownBlock ∧ some k_ ≠ (.slice Ao25 t300.length co25 : Value).ownBlock ∧ some k_ ≠ (.slice Ao26 t303.length co26 : Value).ownBlock ∧ some k_ ≠ (.slice Ao36 t314.length co36 : Value).ownBlock ∧ some k_ ≠ (.slice Ao37 t317.length co37 : Value).ownBlock ∧ some k_ ≠ (.slice Ao42 t323.length co42 : Value).ownBlock ∧ some k_ ≠ (.slice Ao43 t326.length co43 : Value).ownBlock ∧ some k_ ≠ (.slice Ao56 t335.length co56 : Value).ownBlock ∧ some k_ ≠ (.slice Ao57 t338.length co57 : Value).ownBlock ∧ some k_ ≠ (.slice Ao64 t344.length co64 : Value).ownBlock) (.slice Ao65 t347.length co65) t347) ∧ (w'.heap[gb285]? = some (.cells #[.slice A0_0 l0_0.length c0_0, .slice A0_1 l0_1.length c0_1] 25 (0, 0))) ∧ (w'.heap[gb307]? = some (.cells #[.int .i64 t288, .int .i64 t289, .int .i64 t290, .slice Ao21 t291.length co21, .slice Ao22 t294.length co22] 30 (0, 0))) ∧ (w'.heap[gb308]? = some (.cells #[.int .i64 t297, .int .i64 t298, .int .i64 t299, .slice Ao25 t300.length co25, .slice Ao26 t303.length co26] 30 (0, 0))) ∧ (w'.heap[gb330]? = some (.cells #[.int .i64 t311, .int .i64 t312, .int .i64 t313, .slice Ao36 t314.length co36, .slice Ao37 t317.length co37] 30 (0, 0))) ∧ (w'.heap[gb331]? = some (.cells #[.int .i64 t320, .int .i64 t321, .int .i64 t322, .slice Ao42 t323.length co42, .slice Ao43 t326.length co43] 30 (0, 0))) ∧ (w'.heap[gb351]? = some (.cells #[.int .i64 t332, .int .i64 t333, .int .i64 t334, .slice Ao56 t335.length co56, .slice Ao57 t338.length co57] 30 (0, 0))) ∧ (w'.heap[gb352]? = some (.cells #[.int .i64 t341, .int .i64 t342, .int .i64 t343, .slice Ao64 t344.length co64, .slice Ao65 t347.length co65] 30 (0, 0))) ∧ (Below w.heap.size w w')) ?_ ?_
           rotate_left
           ·intro hCont
            refine two_ (i := 0) (j := 7) (Ni := some 93) (Nj := some 100) #[true, true, true, false, true, true, false, false, true, true, false, true, true, false, false, false, true] #[false, true, true, false, true, true, false, true, true, true, false, true, true, false, false, false, true] rfl rfl rfl rfl (two_of HT_.out (by kernel_rfl)) (by decide) (by decide) (fun K hK => ?_) (fun K hK => ?_)
            ·skip
             refine Kd.R_lit_step (Kd.int .i64) _ 3 ?hg (N := 93) ?hd (xs := ([] : List Int)) (inner := []) (ok := fun _ => True) (okp := fun _ => True) ?hr ?hp (fun _ hk => hk) trivial (Below.refl _ _) (Nat.le_refl _) (by simp) ?_; (case hd => rfl); (case hg => rfl); (case hr => first | (go_simp; done) | (go_simp; rfl)); (case hp => exact (Reps.none _ _))
             intro v354 w124 ho125 hb hg_ hnew_
             clear hg_ hnew_
             (first | rw [← Ny353.out] at ho125 | (simp only [Int.reduceToNat] at ho125; rw [← Ny353.out] at ho125))
             have HO355 := rl0_ (rn_ (rn_ (rn_ (rn_ (rn_ (rn_ (rn_ (rn_ (rn_ (rn_ (rn_ (rn_ ho125 HO_308003.out) HO_308004.out) HO_309003.out) HO_309004.out) HO_331003.out) HO_331004.out) HO_332003.out) HO_332004.out) HO_352003.out) HO_352004.out) HO_353003.out) HO_353004.out)
             replace HO_308003 := re_ HO_308003.out ho125 hb
             replace HO_308004 := re_ HO_308004.out ho125 hb
             replace HO_309003 := re_ HO_309003.out ho125 hb
             replace HO_309004 := re_ HO_309004.out ho125 hb
             replace HO_331003 := re_ HO_331003.out ho125 hb
             replace HO_331004 := re_ HO_331004.out ho125 hb
             replace HO_332003 := re_ HO_332003.out ho125 hb
             replace HO_332004 := re_ HO_332004.out ho125 hb
             replace HO_352003 := re_ HO_352003.out ho125 hb
             replace HO_352004 := re_ HO_352004.out ho125 hb
             replace HO_353003 := re_ HO_353003.out ho125 hb
             replace HO_353004 := re_ HO_353004.out ho125 hb
             replace BK285 := bb_ BK285.out hb
             replace BK307 := bb_ BK307.out hb
             replace BK308 := bb_ BK308.out hb
             replace BK330 := bb_ BK330.out hb
             replace BK331 := bb_ BK331.out hb
             replace BK351 := bb_ BK351.out hb
             replace BK352 := bb_ BK352.out hb
             replace HB := hs_ hb
             clear hb ho125
             refine hK.out _ _ ⟨(blk_cell BK331.out 0).trans rfl, (blk_cell BK331.out 1).trans rfl, (blk_cell BK331.out 2).trans rfl, (blk_cell BK331.out 3).trans rfl, (blk_cell BK331.out 4).trans rfl, (blk_cell BK351.out 0).trans rfl, (blk_cell BK351.out 1).trans rfl, (blk_cell BK351.out 2).trans rfl, (blk_cell BK351.out 3).trans rfl, (blk_cell BK351.out 4).trans rfl⟩ (fun hHeld => ?_)
             clear hK K
             refine norm_ (a' := ?_) ?_ ?_
             rotate_left
             ·show Act.put _ (some 93) _ = _
              simp only [Act.put, List.setIfInBounds_toArray, List.set_cons_zero, List.set_cons_succ, i64_w, i32_w]
              rfl
             refine two_ (i := 3) (j := 7) (Ni := some 96) (Nj := some 100) #[true, true, true, true, true, true, false, false, true, true, false, true, true, false, false, false, true] #[true, true, true, false, true, true, false, true, true, true, false, true, true, false, false, false, true] rfl rfl rfl rfl (two_of HT_.out (by kernel_rfl)) (by decide) (by decide) (fun K hK => ?_) (fun K hK => ?_)
             ·skip
              refine Kd.R_append_rows_step (Kd.int .i64) (w0 := w) w.heap.size (by rfl) (.tmp 93) (.tmp 95) 28 3 (.int .i64 0) 8 rfl Try.underlying28 info3 rfl (by decide) (by omega) v354 y353 t323 _ _ _ (fun k_ => some k_ ≠ (.slice Ao21 t291.length co21 : Value).ownBlock ∧ some k_ ≠ (.slice Ao22 t294.length co22 : Value).ownBlock ∧ some k_ ≠ (.slice Ao25 t300.length co25 : Value).ownBlock ∧ some k_ ≠ (.slice Ao26 t303.length co26 : Value).ownBlock ∧ some k_ ≠ (.slice Ao36 t314.length co36 : Value).ownBlock ∧ some k_ ≠ (.slice Ao37 t317.length co37 : Value).ownBlock ∧ some k_ ≠ (.slice Ao42 t323.length co42 : Value).ownBlock ∧ some k_ ≠ (.slice Ao43 t326.length co43 : Value).ownBlock ∧ some k_ ≠ (.slice Ao56 t335.length co56 : Value).ownBlock ∧ some k_ ≠ (.slice Ao57 t338.length co57 : Value).ownBlock ∧ some k_ ≠ (.slice Ao64 t344.length co64 : Value).ownBlock ∧ some k_ ≠ (.slice Ao65 t347.length co65 : Value).ownBlock) (fun _ => False) rfl rfl ?aO ?aR (fun _ _ h => h) (fun _ h => h.elim) ?aF ?aB ?aS ?aL ?_
              (case aR => exact kc_ (Kd.R_reads' HO_332003.out).2.2)
              (case aB => exact bl_)
              (case aF => exact (fun k_ hk => ⟨fr_ HO_308003.out hk, fr_ HO_308004.out hk, fr_ HO_309003.out hk, fr_ HO_309004.out hk, fr_ HO_331003.out hk, fr_ HO_331004.out hk, fr_ HO_332003.out hk, fr_ HO_332004.out hk, fr_ HO_352003.out hk, fr_ HO_352004.out hk, fr_ HO_353003.out hk, fr_ HO_353004.out hk⟩))
              (case aO => exact (rs_ HO355.out))
              (case aS => exact (below_size bl_))
              (case aL => have := LMc118.out; omega)
              intro v357 w126 ho hb hg hat
              rw [← Ny356.out] at ho
              have HO358 := Aside0.mk (ho)
              replace HO_308003 := ra_ HO_308003.out hg hat
              replace HO_308004 := ra_ HO_308004.out hg hat
              replace HO_309003 := ra_ HO_309003.out hg hat
              replace HO_309004 := ra_ HO_309004.out hg hat
              replace HO_331003 := ra_ HO_331003.out hg hat
              replace HO_331004 := ra_ HO_331004.out hg hat
              replace HO_332003 := ra_ HO_332003.out hg hat
              replace HO_332004 := ra_ HO_332004.out hg hat
              replace HO_352003 := ra_ HO_352003.out hg hat
              replace HO_352004 := ra_ HO_352004.out hg hat
              replace HO_353003 := ra_ HO_353003.out hg hat
              replace HO_353004 := ra_ HO_353004.out hg hat
              replace BK285 := bg_ BK285.out hg (Kd.R_ne HO355.out BK285.out (by decide))
              replace BK307 := bg_ BK307.out hg (Kd.R_ne HO355.out BK307.out (by decide))
              replace BK308 := bg_ BK308.out hg (Kd.R_ne HO355.out BK308.out (by decide))
              replace BK330 := bg_ BK330.out hg (Kd.R_ne HO355.out BK330.out (by decide))
              replace BK331 := bg_ BK331.out hg (Kd.R_ne HO355.out BK331.out (by decide))
              replace BK351 := bg_ BK351.out hg (Kd.R_ne HO355.out BK351.out (by decide))
              replace BK352 := bg_ BK352.out hg (Kd.R_ne HO355.out BK352.out (by decide))
              replace HB := Aside0.mk (hb)
              clear HO355
              clear ho hb hg hat
              refine hK.out _ _ ⟨(blk_cell BK331.out 0).trans rfl, (blk_cell BK331.out 1).trans rfl, (blk_cell BK331.out 2).trans rfl, (blk_cell BK331.out 3).trans rfl, (blk_cell BK331.out 4).trans rfl, (blk_cell BK351.out 0).trans rfl, (blk_cell BK351.out 1).trans rfl, (blk_cell BK351.out 2).trans rfl, (blk_cell BK351.out 3).trans rfl, (blk_cell BK351.out 4).trans rfl⟩ (fun hHeld => ?_)
              clear hK K
              refine norm_ (a' := ?_) ?_ ?_
              rotate_left
              ·show Act.put _ (some 96) _ = _
               simp only [Act.put, List.setIfInBounds_toArray, List.set_cons_zero, List.set_cons_succ, i64_w, i32_w]
               rfl
              refine two_ (i := 6) (j := 7) (Ni := some 99) (Nj := some 100) #[true, true, true, true, true, true, true, false, true, true, false, true, true, false, false, false, true] #[true, true, true, true, true, true, false, true, true, true, false, true, true, false, false, false, true] rfl rfl rfl rfl (two_of HT_.out (by kernel_rfl)) (by decide) (by decide) (fun K hK => ?_) (fun K hK => ?_)
              ·skip
               refine Kd.R_append_rows_step (Kd.int .i64) (w0 := w) w.heap.size (by rfl) (.tmp 96) (.tmp 98) 28 3 (.int .i64 0) 8 rfl Try.underlying28 info3 rfl (by decide) (by omega) v357 y356 t326 _ _ _ (fun k_ => some k_ ≠ (.slice Ao21 t291.length co21 : Value).ownBlock ∧ some k_ ≠ (.slice Ao22 t294.length co22 : Value).ownBlock ∧ some k_ ≠ (.slice Ao25 t300.length co25 : Value).ownBlock ∧ some k_ ≠ (.slice Ao26 t303.length co26 : Value).ownBlock ∧ some k_ ≠ (.slice Ao36 t314.length co36 : Value).ownBlock ∧ some k_ ≠ (.slice Ao37 t317.length co37 : Value).ownBlock ∧ some k_ ≠ (.slice Ao42 t323.length co42 : Value).ownBlock ∧ some k_ ≠ (.slice Ao43 t326.length co43 : Value).ownBlock ∧ some k_ ≠ (.slice Ao56 t335.length co56 : Value).ownBlock ∧ some k_ ≠ (.slice Ao57 t338.length co57 : Value).ownBlock ∧ some k_ ≠ (.slice Ao64 t344.length co64 : Value).ownBlock ∧ some k_ ≠ (.slice Ao65 t347.length co65 : Value).ownBlock) (fun _ => False) rfl rfl ?aO ?aR (fun _ _ h => h) (fun _ h => h.elim) ?aF ?aB ?aS ?aL ?_
               (case aR => exact kc_ (Kd.R_reads' HO_332004.out).2.2)
               (case aB => exact bl_)
               (case aF => exact (fun k_ hk => ⟨fr_ HO_308003.out hk, fr_ HO_308004.out hk, fr_ HO_309003.out hk, fr_ HO_309004.out hk, fr_ HO_331003.out hk, fr_ HO_331004.out hk, fr_ HO_332003.out hk, fr_ HO_332004.out hk, fr_ HO_352003.out hk, fr_ HO_352004.out hk, fr_ HO_353003.out hk, fr_ HO_353004.out hk⟩))
               (case aO => exact (rs_ HO358.out))
               (case aS => exact (below_size bl_))
               (case aL => have := LMc119.out; omega)
               intro v360 w127 ho hb hg hat
               rw [← Ny359.out] at ho
               have HO361 := Aside0.mk (ho)
               replace HO_308003 := ra_ HO_308003.out hg hat
               replace HO_308004 := ra_ HO_308004.out hg hat
               replace HO_309003 := ra_ HO_309003.out hg hat
               replace HO_309004 := ra_ HO_309004.out hg hat
               replace HO_331003 := ra_ HO_331003.out hg hat
               replace HO_331004 := ra_ HO_331004.out hg hat
               replace HO_332003 := ra_ HO_332003.out hg hat
               replace HO_332004 := ra_ HO_332004.out hg hat
               replace HO_352003 := ra_ HO_352003.out hg hat
               replace HO_352004 := ra_ HO_352004.out hg hat
               replace HO_353003 := ra_ HO_353003.out hg hat
               replace HO_353004 := ra_ HO_353004.out hg hat
               replace BK285 := bg_ BK285.out hg (Kd.R_ne HO358.out BK285.out (by decide))
               replace BK307 := bg_ BK307.out hg (Kd.R_ne HO358.out BK307.out (by decide))
               replace BK308 := bg_ BK308.out hg (Kd.R_ne HO358.out BK308.out (by decide))
               replace BK330 := bg_ BK330.out hg (Kd.R_ne HO358.out BK330.out (by decide))
               replace BK331 := bg_ BK331.out hg (Kd.R_ne HO358.out BK331.out (by decide))
               replace BK351 := bg_ BK351.out hg (Kd.R_ne HO358.out BK351.out (by decide))
               replace BK352 := bg_ BK352.out hg (Kd.R_ne HO358.out BK352.out (by decide))
               replace HB := Aside0.mk (hb)
               clear HO358
               clear ho hb hg hat
               refine hK.out _ _ ⟨(blk_cell BK331.out 0).trans rfl, (blk_cell BK331.out 1).trans rfl, (blk_cell BK331.out 2).trans rfl, (blk_cell BK331.out 3).trans rfl, (blk_cell BK331.out 4).trans rfl, (blk_cell BK351.out 0).trans rfl, (blk_cell BK351.out 1).trans rfl, (blk_cell BK351.out 2).trans rfl, (blk_cell BK351.out 3).trans rfl, (blk_cell BK351.out 4).trans rfl⟩ (fun hHeld => ?_)
               clear hK K
               refine norm_ (a' := ?_) ?_ ?_
               rotate_left
               ·show Act.put _ (some 99) _ = _
                simp only [Act.put, List.setIfInBounds_toArray, List.set_cons_zero, List.set_cons_succ, i64_w, i32_w]
                rfl
               refine one_ (i := 7) (N := some 100) #[true, true, true, true, true, true, true, true, true, true, false, true, true, false, false, false, true] rfl rfl (one_of HT_.out (by kernel_rfl)) (by decide) (fun K hK => ?_)
               refine Kd.R_lit_step (Kd.int .i64) _ 3 ?hg (N := 100) ?hd (xs := ([] : List Int)) (inner := []) (ok := fun _ => True) (okp := fun _ => True) ?hr ?hp (fun _ hk => hk) trivial (Below.refl _ _) (Nat.le_refl _) (by simp) ?_; (case hd => rfl); (case hg => rfl); (case hr => first | (go_simp; done) | (go_simp; rfl)); (case hp => exact (Reps.none _ _))
               intro v363 w128 ho129 hb hg_ hnew_
               clear hg_ hnew_
               (first | rw [← Ny362.out] at ho129 | (simp only [Int.reduceToNat] at ho129; rw [← Ny362.out] at ho129))
               have HO364 := rl0_ (rn_ (rn_ (rn_ (rn_ (rn_ (rn_ (rn_ (rn_ (rn_ (rn_ (rn_ (rn_ (rn_ ho129 HO_308003.out) HO_308004.out) HO_309003.out) HO_309004.out) HO_331003.out) HO_331004.out) HO_332003.out) HO_332004.out) HO_352003.out) HO_352004.out) HO_353003.out) HO_353004.out) HO361.out)
               replace HO_308003 := re_ HO_308003.out ho129 hb
               replace HO_308004 := re_ HO_308004.out ho129 hb
               replace HO_309003 := re_ HO_309003.out ho129 hb
               replace HO_309004 := re_ HO_309004.out ho129 hb
               replace HO_331003 := re_ HO_331003.out ho129 hb
               replace HO_331004 := re_ HO_331004.out ho129 hb
               replace HO_332003 := re_ HO_332003.out ho129 hb
               replace HO_332004 := re_ HO_332004.out ho129 hb
               replace HO_352003 := re_ HO_352003.out ho129 hb
               replace HO_352004 := re_ HO_352004.out ho129 hb
               replace HO_353003 := re_ HO_353003.out ho129 hb
               replace HO_353004 := re_ HO_353004.out ho129 hb
               replace HO361 := re_ HO361.out ho129 hb
               replace BK285 := bb_ BK285.out hb
               replace BK307 := bb_ BK307.out hb
               replace BK308 := bb_ BK308.out hb
               replace BK330 := bb_ BK330.out hb
               replace BK331 := bb_ BK331.out hb
               replace BK351 := bb_ BK351.out hb
               replace BK352 := bb_ BK352.out hb
               replace HB := hs_ hb
               clear hb ho129
               refine hK.out _ _ ⟨(blk_cell BK331.out 0).trans rfl, (blk_cell BK331.out 1).trans rfl, (blk_cell BK331.out 2).trans rfl, (blk_cell BK331.out 3).trans rfl, (blk_cell BK331.out 4).trans rfl, (blk_cell BK351.out 0).trans rfl, (blk_cell BK351.out 1).trans rfl, (blk_cell BK351.out 2).trans rfl, (blk_cell BK351.out 3).trans rfl, (blk_cell BK351.out 4).trans rfl⟩ (fun hHeld => ?_)
               clear hK K
               refine norm_ (a' := ?_) ?_ ?_
               rotate_left
               ·show Act.put _ (some 100) _ = _
                simp only [Act.put, List.setIfInBounds_toArray, List.set_cons_zero, List.set_cons_succ, i64_w, i32_w]
                rfl
               exact norm_ (by simp only [putAll, Act.put, List.setIfInBounds_toArray, List.set_cons_zero, List.set_cons_succ]) (hCont (v354, v357, v360, v363) _ ⟨hHeld, (rs_ HO361.out), (rs_ HO364.out), (rs_ HO_308003.out), (rs_ HO_308004.out), (rs_ HO_309003.out), (rs_ HO_309004.out), (rs_ HO_331003.out), (rs_ HO_331004.out), (rs_ HO_332003.out), (rs_ HO_332004.out), (rs_ HO_352003.out), (rs_ HO_352004.out), (rs_ HO_353003.out), (rs_ HO_353004.out), (bq_ BK285.out), (bq_ BK307.out), (bq_ BK308.out), (bq_ BK330.out), (bq_ BK331.out), (bq_ BK351.out), (bq_ BK352.out), bl_⟩)
              ·skip
               refine Kd.R_lit_step (Kd.int .i64) _ 3 ?hg (N := 100) ?hd (xs := ([] : List Int)) (inner := []) (ok := fun _ => True) (okp := fun _ => True) ?hr ?hp (fun _ hk => hk) trivial (Below.refl _ _) (Nat.le_refl _) (by simp) ?_; (case hd => rfl); (case hg => rfl); (case hr => first | (go_simp; done) | (go_simp; rfl)); (case hp => exact (Reps.none _ _))
               intro v363 w127 ho128 hb hg_ hnew_
               clear hg_ hnew_
               (first | rw [← Ny362.out] at ho128 | (simp only [Int.reduceToNat] at ho128; rw [← Ny362.out] at ho128))
               have HO364 := rl0_ (rn_ (rn_ (rn_ (rn_ (rn_ (rn_ (rn_ (rn_ (rn_ (rn_ (rn_ (rn_ (rn_ ho128 HO_308003.out) HO_308004.out) HO_309003.out) HO_309004.out) HO_331003.out) HO_331004.out) HO_332003.out) HO_332004.out) HO_352003.out) HO_352004.out) HO_353003.out) HO_353004.out) HO358.out)
               replace HO_308003 := re_ HO_308003.out ho128 hb
               replace HO_308004 := re_ HO_308004.out ho128 hb
               replace HO_309003 := re_ HO_309003.out ho128 hb
               replace HO_309004 := re_ HO_309004.out ho128 hb
               replace HO_331003 := re_ HO_331003.out ho128 hb
               replace HO_331004 := re_ HO_331004.out ho128 hb
               replace HO_332003 := re_ HO_332003.out ho128 hb
               replace HO_332004 := re_ HO_332004.out ho128 hb
               replace HO_352003 := re_ HO_352003.out ho128 hb
               replace HO_352004 := re_ HO_352004.out ho128 hb
               replace HO_353003 := re_ HO_353003.out ho128 hb
               replace HO_353004 := re_ HO_353004.out ho128 hb
               replace HO358 := re_ HO358.out ho128 hb
               replace BK285 := bb_ BK285.out hb
               replace BK307 := bb_ BK307.out hb
               replace BK308 := bb_ BK308.out hb
               replace BK330 := bb_ BK330.out hb
               replace BK331 := bb_ BK331.out hb
               replace BK351 := bb_ BK351.out hb
               replace BK352 := bb_ BK352.out hb
               replace HB := hs_ hb
               clear hb ho128
               refine hK.out _ _ ⟨(blk_cell BK331.out 0).trans rfl, (blk_cell BK331.out 1).trans rfl, (blk_cell BK331.out 2).trans rfl, (blk_cell BK331.out 3).trans rfl, (blk_cell BK331.out 4).trans rfl, (blk_cell BK351.out 0).trans rfl, (blk_cell BK351.out 1).trans rfl, (blk_cell BK351.out 2).trans rfl, (blk_cell BK351.out 3).trans rfl, (blk_cell BK351.out 4).trans rfl⟩ (fun hHeld => ?_)
               clear hK K
               refine norm_ (a' := ?_) ?_ ?_
               rotate_left
               ·show Act.put _ (some 100) _ = _
                simp only [Act.put, List.setIfInBounds_toArray, List.set_cons_zero, List.set_cons_succ, i64_w, i32_w]
                rfl
               refine one_ (i := 6) (N := some 99) #[true, true, true, true, true, true, true, true, true, true, false, true, true, false, false, false, true] rfl rfl (one_of HT_.out (by kernel_rfl)) (by decide) (fun K hK => ?_)
               refine Kd.R_append_rows_step (Kd.int .i64) (w0 := w) w.heap.size (by rfl) (.tmp 96) (.tmp 98) 28 3 (.int .i64 0) 8 rfl Try.underlying28 info3 rfl (by decide) (by omega) v357 y356 t326 _ _ _ (fun k_ => some k_ ≠ (.slice Ao21 t291.length co21 : Value).ownBlock ∧ some k_ ≠ (.slice Ao22 t294.length co22 : Value).ownBlock ∧ some k_ ≠ (.slice Ao25 t300.length co25 : Value).ownBlock ∧ some k_ ≠ (.slice Ao26 t303.length co26 : Value).ownBlock ∧ some k_ ≠ (.slice Ao36 t314.length co36 : Value).ownBlock ∧ some k_ ≠ (.slice Ao37 t317.length co37 : Value).ownBlock ∧ some k_ ≠ (.slice Ao42 t323.length co42 : Value).ownBlock ∧ some k_ ≠ (.slice Ao43 t326.length co43 : Value).ownBlock ∧ some k_ ≠ (.slice Ao56 t335.length co56 : Value).ownBlock ∧ some k_ ≠ (.slice Ao57 t338.length co57 : Value).ownBlock ∧ some k_ ≠ (.slice Ao64 t344.length co64 : Value).ownBlock ∧ some k_ ≠ (.slice Ao65 t347.length co65 : Value).ownBlock ∧ some k_ ≠ (v363 : Value).ownBlock) (fun _ => False) rfl rfl ?aO ?aR (fun _ _ h => h) (fun _ h => h.elim) ?aF ?aB ?aS ?aL ?_
               (case aR => exact kc_ (Kd.R_reads' HO_332004.out).2.2)
               (case aB => exact bl_)
               (case aF => exact (fun k_ hk => ⟨fr_ HO_308003.out hk, fr_ HO_308004.out hk, fr_ HO_309003.out hk, fr_ HO_309004.out hk, fr_ HO_331003.out hk, fr_ HO_331004.out hk, fr_ HO_332003.out hk, fr_ HO_332004.out hk, fr_ HO_352003.out hk, fr_ HO_352004.out hk, fr_ HO_353003.out hk, fr_ HO_353004.out hk, fr_ HO364.out hk⟩))
               (case aO => exact (rs_ HO358.out))
               (case aS => exact (below_size bl_))
               (case aL => have := LMc119.out; omega)
               intro v360 w129 ho hb hg hat
               rw [← Ny359.out] at ho
               have HO361 := Aside0.mk (ho)
               replace HO_308003 := ra_ HO_308003.out hg hat
               replace HO_308004 := ra_ HO_308004.out hg hat
               replace HO_309003 := ra_ HO_309003.out hg hat
               replace HO_309004 := ra_ HO_309004.out hg hat
               replace HO_331003 := ra_ HO_331003.out hg hat
               replace HO_331004 := ra_ HO_331004.out hg hat
               replace HO_332003 := ra_ HO_332003.out hg hat
               replace HO_332004 := ra_ HO_332004.out hg hat
               replace HO_352003 := ra_ HO_352003.out hg hat
               replace HO_352004 := ra_ HO_352004.out hg hat
               replace HO_353003 := ra_ HO_353003.out hg hat
               replace HO_353004 := ra_ HO_353004.out hg hat
               replace BK285 := bg_ BK285.out hg (Kd.R_ne HO358.out BK285.out (by decide))
               replace BK307 := bg_ BK307.out hg (Kd.R_ne HO358.out BK307.out (by decide))
               replace BK308 := bg_ BK308.out hg (Kd.R_ne HO358.out BK308.out (by decide))
               replace BK330 := bg_ BK330.out hg (Kd.R_ne HO358.out BK330.out (by decide))
               replace BK331 := bg_ BK331.out hg (Kd.R_ne HO358.out BK331.out (by decide))
               replace BK351 := bg_ BK351.out hg (Kd.R_ne HO358.out BK351.out (by decide))
               replace BK352 := bg_ BK352.out hg (Kd.R_ne HO358.out BK352.out (by decide))
               replace HO364 := ra_ HO364.out hg hat
               replace HB := Aside0.mk (hb)
               clear HO358
               clear ho hb hg hat
               refine hK.out _ _ ⟨(blk_cell BK331.out 0).trans rfl, (blk_cell BK331.out 1).trans rfl, (blk_cell BK331.out 2).trans rfl, (blk_cell BK331.out 3).trans rfl, (blk_cell BK331.out 4).trans rfl, (blk_cell BK351.out 0).trans rfl, (blk_cell BK351.out 1).trans rfl, (blk_cell BK351.out 2).trans rfl, (blk_cell BK351.out 3).trans rfl, (blk_cell BK351.out 4).trans rfl⟩ (fun hHeld => ?_)
               clear hK K
               refine norm_ (a' := ?_) ?_ ?_
               rotate_left
               ·show Act.put _ (some 99) _ = _
                simp only [Act.put, List.setIfInBounds_toArray, List.set_cons_zero, List.set_cons_succ, i64_w, i32_w]
                rfl
               exact norm_ (by simp only [putAll, Act.put, List.setIfInBounds_toArray, List.set_cons_zero, List.set_cons_succ]) (hCont (v354, v357, v360, v363) _ ⟨hHeld, (rs_ HO361.out), (rs_ HO364.out), (rs_ HO_308003.out), (rs_ HO_308004.out), (rs_ HO_309003.out), (rs_ HO_309004.out), (rs_ HO_331003.out), (rs_ HO_331004.out), (rs_ HO_332003.out), (rs_ HO_332004.out), (rs_ HO_352003.out), (rs_ HO_352004.out), (rs_ HO_353003.out), (rs_ HO_353004.out), (bq_ BK285.out), (bq_ BK307.out), (bq_ BK308.out), (bq_ BK330.out), (bq_ BK331.out), (bq_ BK351.out), (bq_ BK352.out), bl_⟩)
             ·skip
              refine Kd.R_lit_step (Kd.int .i64) _ 3 ?hg (N := 100) ?hd (xs := ([] : List Int)) (inner := []) (ok := fun _ => True) (okp := fun _ => True) ?hr ?hp (fun _ hk => hk) trivial (Below.refl _ _) (Nat.le_refl _) (by simp) ?_; (case hd => rfl); (case hg => rfl); (case hr => first | (go_simp; done) | (go_simp; rfl)); (case hp => exact (Reps.none _ _))
              intro v363 w126 ho127 hb hg_ hnew_
              clear hg_ hnew_
              (first | rw [← Ny362.out] at ho127 | (simp only [Int.reduceToNat] at ho127; rw [← Ny362.out] at ho127))
              have HO364 := rl0_ (rn_ (rn_ (rn_ (rn_ (rn_ (rn_ (rn_ (rn_ (rn_ (rn_ (rn_ (rn_ (rn_ ho127 HO_308003.out) HO_308004.out) HO_309003.out) HO_309004.out) HO_331003.out) HO_331004.out) HO_332003.out) HO_332004.out) HO_352003.out) HO_352004.out) HO_353003.out) HO_353004.out) HO355.out)
              replace HO_308003 := re_ HO_308003.out ho127 hb
              replace HO_308004 := re_ HO_308004.out ho127 hb
              replace HO_309003 := re_ HO_309003.out ho127 hb
              replace HO_309004 := re_ HO_309004.out ho127 hb
              replace HO_331003 := re_ HO_331003.out ho127 hb
              replace HO_331004 := re_ HO_331004.out ho127 hb
              replace HO_332003 := re_ HO_332003.out ho127 hb
              replace HO_332004 := re_ HO_332004.out ho127 hb
              replace HO_352003 := re_ HO_352003.out ho127 hb
              replace HO_352004 := re_ HO_352004.out ho127 hb
              replace HO_353003 := re_ HO_353003.out ho127 hb
              replace HO_353004 := re_ HO_353004.out ho127 hb
              replace HO355 := re_ HO355.out ho127 hb
              replace BK285 := bb_ BK285.out hb
              replace BK307 := bb_ BK307.out hb
              replace BK308 := bb_ BK308.out hb
              replace BK330 := bb_ BK330.out hb
              replace BK331 := bb_ BK331.out hb
              replace BK351 := bb_ BK351.out hb
              replace BK352 := bb_ BK352.out hb
              replace HB := hs_ hb
              clear hb ho127
              refine hK.out _ _ ⟨(blk_cell BK331.out 0).trans rfl, (blk_cell BK331.out 1).trans rfl, (blk_cell BK331.out 2).trans rfl, (blk_cell BK331.out 3).trans rfl, (blk_cell BK331.out 4).trans rfl, (blk_cell BK351.out 0).trans rfl, (blk_cell BK351.out 1).trans rfl, (blk_cell BK351.out 2).trans rfl, (blk_cell BK351.out 3).trans rfl, (blk_cell BK351.out 4).trans rfl⟩ (fun hHeld => ?_)
              clear hK K
              refine norm_ (a' := ?_) ?_ ?_
              rotate_left
              ·show Act.put _ (some 100) _ = _
               simp only [Act.put, List.setIfInBounds_toArray, List.set_cons_zero, List.set_cons_succ, i64_w, i32_w]
               rfl
              refine one_ (i := 3) (N := some 96) #[true, true, true, true, true, true, false, true, true, true, false, true, true, false, false, false, true] rfl rfl (one_of HT_.out (by kernel_rfl)) (by decide) (fun K hK => ?_)
              refine Kd.R_append_rows_step (Kd.int .i64) (w0 := w) w.heap.size (by rfl) (.tmp 93) (.tmp 95) 28 3 (.int .i64 0) 8 rfl Try.underlying28 info3 rfl (by decide) (by omega) v354 y353 t323 _ _ _ (fun k_ => some k_ ≠ (.slice Ao21 t291.length co21 : Value).ownBlock ∧ some k_ ≠ (.slice Ao22 t294.length co22 : Value).ownBlock ∧ some k_ ≠ (.slice Ao25 t300.length co25 : Value).ownBlock ∧ some k_ ≠ (.slice Ao26 t303.length co26 : Value).ownBlock ∧ some k_ ≠ (.slice Ao36 t314.length co36 : Value).ownBlock ∧ some k_ ≠ (.slice Ao37 t317.length co37 : Value).ownBlock ∧ some k_ ≠ (.slice Ao42 t323.length co42 : Value).ownBlock ∧ some k_ ≠ (.slice Ao43 t326.length co43 : Value).ownBlock ∧ some k_ ≠ (.slice Ao56 t335.length co56 : Value).ownBlock ∧ some k_ ≠ (.slice Ao57 t338.length co57 : Value).ownBlock ∧ some k_ ≠ (.slice Ao64 t344.length co64 : Value).ownBlock ∧ some k_ ≠ (.slice Ao65 t347.length co65 : Value).ownBlock ∧ some k_ ≠ (v363 : Value).ownBlock) (fun _ => False) rfl rfl ?aO ?aR (fun _ _ h => h) (fun _ h => h.elim) ?aF ?aB ?aS ?aL ?_
              (case aR => exact kc_ (Kd.R_reads' HO_332003.out).2.2)
              (case aB => exact bl_)
              (case aF => exact (fun k_ hk => ⟨fr_ HO_308003.out hk, fr_ HO_308004.out hk, fr_ HO_309003.out hk, fr_ HO_309004.out hk, fr_ HO_331003.out hk, fr_ HO_331004.out hk, fr_ HO_332003.out hk, fr_ HO_332004.out hk, fr_ HO_352003.out hk, fr_ HO_352004.out hk, fr_ HO_353003.out hk, fr_ HO_353004.out hk, fr_ HO364.out hk⟩))
              (case aO => exact (rs_ HO355.out))
              (case aS => exact (below_size bl_))
              (case aL => have := LMc118.out; omega)
              intro v357 w128 ho hb hg hat
              rw [← Ny356.out] at ho
              have HO358 := Aside0.mk (ho)
              replace HO_308003 := ra_ HO_308003.out hg hat
              replace HO_308004 := ra_ HO_308004.out hg hat
              replace HO_309003 := ra_ HO_309003.out hg hat
              replace HO_309004 := ra_ HO_309004.out hg hat
              replace HO_331003 := ra_ HO_331003.out hg hat
              replace HO_331004 := ra_ HO_331004.out hg hat
              replace HO_332003 := ra_ HO_332003.out hg hat
              replace HO_332004 := ra_ HO_332004.out hg hat
              replace HO_352003 := ra_ HO_352003.out hg hat
              replace HO_352004 := ra_ HO_352004.out hg hat
              replace HO_353003 := ra_ HO_353003.out hg hat
              replace HO_353004 := ra_ HO_353004.out hg hat
              replace BK285 := bg_ BK285.out hg (Kd.R_ne HO355.out BK285.out (by decide))
              replace BK307 := bg_ BK307.out hg (Kd.R_ne HO355.out BK307.out (by decide))
              replace BK308 := bg_ BK308.out hg (Kd.R_ne HO355.out BK308.out (by decide))
              replace BK330 := bg_ BK330.out hg (Kd.R_ne HO355.out BK330.out (by decide))
              replace BK331 := bg_ BK331.out hg (Kd.R_ne HO355.out BK331.out (by decide))
              replace BK351 := bg_ BK351.out hg (Kd.R_ne HO355.out BK351.out (by decide))
              replace BK352 := bg_ BK352.out hg (Kd.R_ne HO355.out BK352.out (by decide))
              replace HO364 := ra_ HO364.out hg hat
              replace HB := Aside0.mk (hb)
              clear HO355
              clear ho hb hg hat
              refine hK.out _ _ ⟨(blk_cell BK331.out 0).trans rfl, (blk_cell BK331.out 1).trans rfl, (blk_cell BK331.out 2).trans rfl, (blk_cell BK331.out 3).trans rfl, (blk_cell BK331.out 4).trans rfl, (blk_cell BK351.out 0).trans rfl, (blk_cell BK351.out 1).trans rfl, (blk_cell BK351.out 2).trans rfl, (blk_cell BK351.out 3).trans rfl, (blk_cell BK351.out 4).trans rfl⟩ (fun hHeld => ?_)
              clear hK K
              refine norm_ (a' := ?_) ?_ ?_
              rotate_left
              ·show Act.put _ (some 96) _ = _
               simp only [Act.put, List.setIfInBounds_toArray, List.set_cons_zero, List.set_cons_succ, i64_w, i32_w]
               rfl
              refine one_ (i := 6) (N := some 99) #[true, true, true, true, true, true, true, true, true, true, false, true, true, false, false, false, true] rfl rfl (one_of HT_.out (by kernel_rfl)) (by decide) (fun K hK => ?_)
              refine Kd.R_append_rows_step (Kd.int .i64) (w0 := w) w.heap.size (by rfl) (.tmp 96) (.tmp 98) 28 3 (.int .i64 0) 8 rfl Try.underlying28 info3 rfl (by decide) (by omega) v357 y356 t326 _ _ _ (fun k_ => some k_ ≠ (.slice Ao21 t291.length co21 : Value).ownBlock ∧ some k_ ≠ (.slice Ao22 t294.length co22 : Value).ownBlock ∧ some k_ ≠ (.slice Ao25 t300.length co25 : Value).ownBlock ∧ some k_ ≠ (.slice Ao26 t303.length co26 : Value).ownBlock ∧ some k_ ≠ (.slice Ao36 t314.length co36 : Value).ownBlock ∧ some k_ ≠ (.slice Ao37 t317.length co37 : Value).ownBlock ∧ some k_ ≠ (.slice Ao42 t323.length co42 : Value).ownBlock ∧ some k_ ≠ (.slice Ao43 t326.length co43 : Value).ownBlock ∧ some k_ ≠ (.slice Ao56 t335.length co56 : Value).ownBlock ∧ some k_ ≠ (.slice Ao57 t338.length co57 : Value).ownBlock ∧ some k_ ≠ (.slice Ao64 t344.length co64 : Value).ownBlock ∧ some k_ ≠ (.slice Ao65 t347.length co65 : Value).ownBlock ∧ some k_ ≠ (v363 : Value).ownBlock) (fun _ => False) rfl rfl ?aO ?aR (fun _ _ h => h) (fun _ h => h.elim) ?aF ?aB ?aS ?aL ?_
              (case aR => exact kc_ (Kd.R_reads' HO_332004.out).2.2)
              (case aB => exact bl_)
              (case aF => exact (fun k_ hk => ⟨fr_ HO_308003.out hk, fr_ HO_308004.out hk, fr_ HO_309003.out hk, fr_ HO_309004.out hk, fr_ HO_331003.out hk, fr_ HO_331004.out hk, fr_ HO_332003.out hk, fr_ HO_332004.out hk, fr_ HO_352003.out hk, fr_ HO_352004.out hk, fr_ HO_353003.out hk, fr_ HO_353004.out hk, fr_ HO364.out hk⟩))
              (case aO => exact (rs_ HO358.out))
              (case aS => exact (below_size bl_))
              (case aL => have := LMc119.out; omega)
              intro v360 w129 ho hb hg hat
              rw [← Ny359.out] at ho
              have HO361 := Aside0.mk (ho)
              replace HO_308003 := ra_ HO_308003.out hg hat
              replace HO_308004 := ra_ HO_308004.out hg hat
              replace HO_309003 := ra_ HO_309003.out hg hat
              replace HO_309004 := ra_ HO_309004.out hg hat
              replace HO_331003 := ra_ HO_331003.out hg hat
              replace HO_331004 := ra_ HO_331004.out hg hat
              replace HO_332003 := ra_ HO_332003.out hg hat
              replace HO_332004 := ra_ HO_332004.out hg hat
              replace HO_352003 := ra_ HO_352003.out hg hat
              replace HO_352004 := ra_ HO_352004.out hg hat
              replace HO_353003 := ra_ HO_353003.out hg hat
              replace HO_353004 := ra_ HO_353004.out hg hat
              replace BK285 := bg_ BK285.out hg (Kd.R_ne HO358.out BK285.out (by decide))
              replace BK307 := bg_ BK307.out hg (Kd.R_ne HO358.out BK307.out (by decide))
              replace BK308 := bg_ BK308.out hg (Kd.R_ne HO358.out BK308.out (by decide))
              replace BK330 := bg_ BK330.out hg (Kd.R_ne HO358.out BK330.out (by decide))
              replace BK331 := bg_ BK331.out hg (Kd.R_ne HO358.out BK331.out (by decide))
              replace BK351 := bg_ BK351.out hg (Kd.R_ne HO358.out BK351.out (by decide))
              replace BK352 := bg_ BK352.out hg (Kd.R_ne HO358.out BK352.out (by decide))
              replace HO364 := ra_ HO364.out hg hat
              replace HB := Aside0.mk (hb)
              clear HO358
              clear ho hb hg hat
              refine hK.out _ _ ⟨(blk_cell BK331.out 0).trans rfl, (blk_cell BK331.out 1).trans rfl, (blk_cell BK331.out 2).trans rfl, (blk_cell BK331.out 3).trans rfl, (blk_cell BK331.out 4).trans rfl, (blk_cell BK351.out 0).trans rfl, (blk_cell BK351.out 1).trans rfl, (blk_cell BK351.out 2).trans rfl, (blk_cell BK351.out 3).trans rfl, (blk_cell BK351.out 4).trans rfl⟩ (fun hHeld => ?_)
              clear hK K
              refine norm_ (a' := ?_) ?_ ?_
              rotate_left
              ·show Act.put _ (some 99) _ = _
               simp only [Act.put, List.setIfInBounds_toArray, List.set_cons_zero, List.set_cons_succ, i64_w, i32_w]
               rfl
              exact norm_ (by simp only [putAll, Act.put, List.setIfInBounds_toArray, List.set_cons_zero, List.set_cons_succ]) (hCont (v354, v357, v360, v363) _ ⟨hHeld, (rs_ HO361.out), (rs_ HO364.out), (rs_ HO_308003.out), (rs_ HO_308004.out), (rs_ HO_309003.out), (rs_ HO_309004.out), (rs_ HO_331003.out), (rs_ HO_331004.out), (rs_ HO_332003.out), (rs_ HO_332004.out), (rs_ HO_352003.out), (rs_ HO_352004.out), (rs_ HO_353003.out), (rs_ HO_353004.out), (bq_ BK285.out), (bq_ BK307.out), (bq_ BK308.out), (bq_ BK330.out), (bq_ BK331.out), (bq_ BK351.out), (bq_ BK352.out), bl_⟩)
            ·skip
             refine Kd.R_lit_step (Kd.int .i64) _ 3 ?hg (N := 100) ?hd (xs := ([] : List Int)) (inner := []) (ok := fun _ => True) (okp := fun _ => True) ?hr ?hp (fun _ hk => hk) trivial (Below.refl _ _) (Nat.le_refl _) (by simp) ?_; (case hd => rfl); (case hg => rfl); (case hr => first | (go_simp; done) | (go_simp; rfl)); (case hp => exact (Reps.none _ _))
             intro v363 w124 ho125 hb hg_ hnew_
             clear hg_ hnew_
             (first | rw [← Ny362.out] at ho125 | (simp only [Int.reduceToNat] at ho125; rw [← Ny362.out] at ho125))
             have HO364 := rl0_ (rn_ (rn_ (rn_ (rn_ (rn_ (rn_ (rn_ (rn_ (rn_ (rn_ (rn_ (rn_ ho125 HO_308003.out) HO_308004.out) HO_309003.out) HO_309004.out) HO_331003.out) HO_331004.out) HO_332003.out) HO_332004.out) HO_352003.out) HO_352004.out) HO_353003.out) HO_353004.out)
             replace HO_308003 := re_ HO_308003.out ho125 hb
             replace HO_308004 := re_ HO_308004.out ho125 hb
             replace HO_309003 := re_ HO_309003.out ho125 hb
             replace HO_309004 := re_ HO_309004.out ho125 hb
             replace HO_331003 := re_ HO_331003.out ho125 hb
             replace HO_331004 := re_ HO_331004.out ho125 hb
             replace HO_332003 := re_ HO_332003.out ho125 hb
             replace HO_332004 := re_ HO_332004.out ho125 hb
             replace HO_352003 := re_ HO_352003.out ho125 hb
             replace HO_352004 := re_ HO_352004.out ho125 hb
             replace HO_353003 := re_ HO_353003.out ho125 hb
             replace HO_353004 := re_ HO_353004.out ho125 hb
             replace BK285 := bb_ BK285.out hb
             replace BK307 := bb_ BK307.out hb
             replace BK308 := bb_ BK308.out hb
             replace BK330 := bb_ BK330.out hb
             replace BK331 := bb_ BK331.out hb
             replace BK351 := bb_ BK351.out hb
             replace BK352 := bb_ BK352.out hb
             replace HB := hs_ hb
             clear hb ho125
             refine hK.out _ _ ⟨(blk_cell BK331.out 0).trans rfl, (blk_cell BK331.out 1).trans rfl, (blk_cell BK331.out 2).trans rfl, (blk_cell BK331.out 3).trans rfl, (blk_cell BK331.out 4).trans rfl, (blk_cell BK351.out 0).trans rfl, (blk_cell BK351.out 1).trans rfl, (blk_cell BK351.out 2).trans rfl, (blk_cell BK351.out 3).trans rfl, (blk_cell BK351.out 4).trans rfl⟩ (fun hHeld => ?_)
             clear hK K
             refine norm_ (a' := ?_) ?_ ?_
             rotate_left
             ·show Act.put _ (some 100) _ = _
              simp only [Act.put, List.setIfInBounds_toArray, List.set_cons_zero, List.set_cons_succ, i64_w, i32_w]
              rfl
             refine one_ (i := 0) (N := some 93) #[true, true, true, false, true, true, false, true, true, true, false, true, true, false, false, false, true] rfl rfl (one_of HT_.out (by kernel_rfl)) (by decide) (fun K hK => ?_)
             refine Kd.R_lit_step (Kd.int .i64) _ 3 ?hg (N := 93) ?hd (xs := ([] : List Int)) (inner := []) (ok := fun _ => True) (okp := fun _ => True) ?hr ?hp (fun _ hk => hk) trivial (Below.refl _ _) (Nat.le_refl _) (by simp) ?_; (case hd => rfl); (case hg => rfl); (case hr => first | (go_simp; done) | (go_simp; rfl)); (case hp => exact (Reps.none _ _))
             intro v354 w126 ho127 hb hg_ hnew_
             clear hg_ hnew_
             (first | rw [← Ny353.out] at ho127 | (simp only [Int.reduceToNat] at ho127; rw [← Ny353.out] at ho127))
             have HO355 := rl0_ (rn_ (rn_ (rn_ (rn_ (rn_ (rn_ (rn_ (rn_ (rn_ (rn_ (rn_ (rn_ (rn_ ho127 HO_308003.out) HO_308004.out) HO_309003.out) HO_309004.out) HO_331003.out) HO_331004.out) HO_332003.out) HO_332004.out) HO_352003.out) HO_352004.out) HO_353003.out) HO_353004.out) HO364.out)
             replace HO_308003 := re_ HO_308003.out ho127 hb
             replace HO_308004 := re_ HO_308004.out ho127 hb
             replace HO_309003 := re_ HO_309003.out ho127 hb
             replace HO_309004 := re_ HO_309004.out ho127 hb
             replace HO_331003 := re_ HO_331003.out ho127 hb
             replace HO_331004 := re_ HO_331004.out ho127 hb
             replace HO_332003 := re_ HO_332003.out ho127 hb
             replace HO_332004 := re_ HO_332004.out ho127 hb
             replace HO_352003 := re_ HO_352003.out ho127 hb
             replace HO_352004 := re_ HO_352004.out ho127 hb
             replace HO_353003 := re_ HO_353003.out ho127 hb
             replace HO_353004 := re_ HO_353004.out ho127 hb
             replace HO364 := re_ HO364.out ho127 hb
             replace BK285 := bb_ BK285.out hb
             replace BK307 := bb_ BK307.out hb
             replace BK308 := bb_ BK308.out hb
             replace BK330 := bb_ BK330.out hb
             replace BK331 := bb_ BK331.out hb
             replace BK351 := bb_ BK351.out hb
             replace BK352 := bb_ BK352.out hb
             replace HB := hs_ hb
             clear hb ho127
             refine hK.out _ _ ⟨(blk_cell BK331.out 0).trans rfl, (blk_cell BK331.out 1).trans rfl, (blk_cell BK331.out 2).trans rfl, (blk_cell BK331.out 3).trans rfl, (blk_cell BK331.out 4).trans rfl, (blk_cell BK351.out 0).trans rfl, (blk_cell BK351.out 1).trans rfl, (blk_cell BK351.out 2).trans rfl, (blk_cell BK351.out 3).trans rfl, (blk_cell BK351.out 4).trans rfl⟩ (fun hHeld => ?_)
             clear hK K
             refine norm_ (a' := ?_) ?_ ?_
             rotate_left
             ·show Act.put _ (some 93) _ = _
              simp only [Act.put, List.setIfInBounds_toArray, List.set_cons_zero, List.set_cons_succ, i64_w, i32_w]
              rfl
             refine one_ (i := 3) (N := some 96) #[true, true, true, true, true, true, false, true, true, true, false, true, true, false, false, false, true] rfl rfl (one_of HT_.out (by kernel_rfl)) (by decide) (fun K hK => ?_)
             refine Kd.R_append_rows_step (Kd.int .i64) (w0 := w) w.heap.size (by rfl) (.tmp 93) (.tmp 95) 28 3 (.int .i64 0) 8 rfl Try.underlying28 info3 rfl (by decide) (by omega) v354 y353 t323 _ _ _ (fun k_ => some k_ ≠ (.slice Ao21 t291.length co21 : Value).ownBlock ∧ some k_ ≠ (.slice Ao22 t294.length co22 : Value).ownBlock ∧ some k_ ≠ (.slice Ao25 t300.length co25 : Value).ownBlock ∧ some k_ ≠ (.slice Ao26 t303.length co26 : Value).ownBlock ∧ some k_ ≠ (.slice Ao36 t314.length co36 : Value).ownBlock ∧ some k_ ≠ (.slice Ao37 t317.length co37 : Value).ownBlock ∧ some k_ ≠ (.slice Ao42 t323.length co42 : Value).ownBlock ∧ some k_ ≠ (.slice Ao43 t326.length co43 : Value).ownBlock ∧ some k_ ≠ (.slice Ao56 t335.length co56 : Value).ownBlock ∧ some k_ ≠ (.slice Ao57 t338.length co57 : Value).ownBlock ∧ some k_ ≠ (.slice Ao64 t344.length co64 : Value).ownBlock ∧ some k_ ≠ (.slice Ao65 t347.length co65 : Value).ownBlock ∧ some k_ ≠ (v363 : Value).ownBlock) (fun _ => False) rfl rfl ?aO ?aR (fun _ _ h => h) (fun _ h => h.elim) ?aF ?aB ?aS ?aL ?_
             (case aR => exact kc_ (Kd.R_reads' HO_332003.out).2.2)
             (case aB => exact bl_)
             (case aF => exact (fun k_ hk => ⟨fr_ HO_308003.out hk, fr_ HO_308004.out hk, fr_ HO_309003.out hk, fr_ HO_309004.out hk, fr_ HO_331003.out hk, fr_ HO_331004.out hk, fr_ HO_332003.out hk, fr_ HO_332004.out hk, fr_ HO_352003.out hk, fr_ HO_352004.out hk, fr_ HO_353003.out hk, fr_ HO_353004.out hk, fr_ HO364.out hk⟩))
             (case aO => exact (rs_ HO355.out))
             (case aS => exact (below_size bl_))
             (case aL => have := LMc118.out; omega)
             intro v357 w128 ho hb hg hat
             rw [← Ny356.out] at ho
             have HO358 := Aside0.mk (ho)
             replace HO_308003 := ra_ HO_308003.out hg hat
             replace HO_308004 := ra_ HO_308004.out hg hat
             replace HO_309003 := ra_ HO_309003.out hg hat
             replace HO_309004 := ra_ HO_309004.out hg hat
             replace HO_331003 := ra_ HO_331003.out hg hat
             replace HO_331004 := ra_ HO_331004.out hg hat
             replace HO_332003 := ra_ HO_332003.out hg hat
             replace HO_332004 := ra_ HO_332004.out hg hat
             replace HO_352003 := ra_ HO_352003.out hg hat
             replace HO_352004 := ra_ HO_352004.out hg hat
             replace HO_353003 := ra_ HO_353003.out hg hat
             replace HO_353004 := ra_ HO_353004.out hg hat
             replace BK285 := bg_ BK285.out hg (Kd.R_ne HO355.out BK285.out (by decide))
             replace BK307 := bg_ BK307.out hg (Kd.R_ne HO355.out BK307.out (by decide))
             replace BK308 := bg_ BK308.out hg (Kd.R_ne HO355.out BK308.out (by decide))
             replace BK330 := bg_ BK330.out hg (Kd.R_ne HO355.out BK330.out (by decide))
             replace BK331 := bg_ BK331.out hg (Kd.R_ne HO355.out BK331.out (by decide))
             replace BK351 := bg_ BK351.out hg (Kd.R_ne HO355.out BK351.out (by decide))
             replace BK352 := bg_ BK352.out hg (Kd.R_ne HO355.out BK352.out (by decide))
             replace HO364 := ra_ HO364.out hg hat
             replace HB := Aside0.mk (hb)
             clear HO355
             clear ho hb hg hat
             refine hK.out _ _ ⟨(blk_cell BK331.out 0).trans rfl, (blk_cell BK331.out 1).trans rfl, (blk_cell BK331.out 2).trans rfl, (blk_cell BK331.out 3).trans rfl, (blk_cell BK331.out 4).trans rfl, (blk_cell BK351.out 0).trans rfl, (blk_cell BK351.out 1).trans rfl, (blk_cell BK351.out 2).trans rfl, (blk_cell BK351.out 3).trans rfl, (blk_cell BK351.out 4).trans rfl⟩ (fun hHeld => ?_)
             clear hK K
             refine norm_ (a' := ?_) ?_ ?_
             rotate_left
             ·show Act.put _ (some 96) _ = _
              simp only [Act.put, List.setIfInBounds_toArray, List.set_cons_zero, List.set_cons_succ, i64_w, i32_w]
              rfl
             refine one_ (i := 6) (N := some 99) #[true, true, true, true, true, true, true, true, true, true, false, true, true, false, false, false, true] rfl rfl (one_of HT_.out (by kernel_rfl)) (by decide) (fun K hK => ?_)
             refine Kd.R_append_rows_step (Kd.int .i64) (w0 := w) w.heap.size (by rfl) (.tmp 96) (.tmp 98) 28 3 (.int .i64 0) 8 rfl Try.underlying28 info3 rfl (by decide) (by omega) v357 y356 t326 _ _ _ (fun k_ => some k_ ≠ (.slice Ao21 t291.length co21 : Value).ownBlock ∧ some k_ ≠ (.slice Ao22 t294.length co22 : Value).ownBlock ∧ some k_ ≠ (.slice Ao25 t300.length co25 : Value).ownBlock ∧ some k_ ≠ (.slice Ao26 t303.length co26 : Value).ownBlock ∧ some k_ ≠ (.slice Ao36 t314.length co36 : Value).ownBlock ∧ some k_ ≠ (.slice Ao37 t317.length co37 : Value).ownBlock ∧ some k_ ≠ (.slice Ao42 t323.length co42 : Value).ownBlock ∧ some k_ ≠ (.slice Ao43 t326.length co43 : Value).ownBlock ∧ some k_ ≠ (.slice Ao56 t335.length co56 : Value).ownBlock ∧ some k_ ≠ (.slice Ao57 t338.length co57 : Value).ownBlock ∧ some k_ ≠ (.slice Ao64 t344.length co64 : Value).ownBlock ∧ some k_ ≠ (.slice Ao65 t347.length co65 : Value).ownBlock ∧ some k_ ≠ (v363 : Value).ownBlock) (fun _ => False) rfl rfl ?aO ?aR (fun _ _ h => h) (fun _ h => h.elim) ?aF ?aB ?aS ?aL ?_
             (case aR => exact kc_ (Kd.R_reads' HO_332004.out).2.2)
             (case aB => exact bl_)
             (case aF => exact (fun k_ hk => ⟨fr_ HO_308003.out hk, fr_ HO_308004.out hk, fr_ HO_309003.out hk, fr_ HO_309004.out hk, fr_ HO_331003.out hk, fr_ HO_331004.out hk, fr_ HO_332003.out hk, fr_ HO_332004.out hk, fr_ HO_352003.out hk, fr_ HO_352004.out hk, fr_ HO_353003.out hk, fr_ HO_353004.out hk, fr_ HO364.out hk⟩))
             (case aO => exact (rs_ HO358.out))
             (case aS => exact (below_size bl_))
             (case aL => have := LMc119.out; omega)
             intro v360 w129 ho hb hg hat
             rw [← Ny359.out] at ho
             have HO361 := Aside0.mk (ho)
             replace HO_308003 := ra_ HO_308003.out hg hat
             replace HO_308004 := ra_ HO_308004.out hg hat
             replace HO_309003 := ra_ HO_309003.out hg hat
             replace HO_309004 := ra_ HO_309004.out hg hat
             replace HO_331003 := ra_ HO_331003.out hg hat
             replace HO_331004 := ra_ HO_331004.out hg hat
             replace HO_332003 := ra_ HO_332003.out hg hat
             replace HO_332004 := ra_ HO_332004.out hg hat
             replace HO_352003 := ra_ HO_352003.out hg hat
             replace HO_352004 := ra_ HO_352004.out hg hat
             replace HO_353003 := ra_ HO_353003.out hg hat
             replace HO_353004 := ra_ HO_353004.out hg hat
             replace BK285 := bg_ BK285.out hg (Kd.R_ne HO358.out BK285.out (by decide))
             replace BK307 := bg_ BK307.out hg (Kd.R_ne HO358.out BK307.out (by decide))
             replace BK308 := bg_ BK308.out hg (Kd.R_ne HO358.out BK308.out (by decide))
             replace BK330 := bg_ BK330.out hg (Kd.R_ne HO358.out BK330.out (by decide))
             replace BK331 := bg_ BK331.out hg (Kd.R_ne HO358.out BK331.out (by decide))
             replace BK351 := bg_ BK351.out hg (Kd.R_ne HO358.out BK351.out (by decide))
             replace BK352 := bg_ BK352.out hg (Kd.R_ne HO358.out BK352.out (by decide))
             replace HO364 := ra_ HO364.out hg hat
             replace HB := Aside0.mk (hb)
             clear HO358
             clear ho hb hg hat
             refine hK.out _ _ ⟨(blk_cell BK331.out 0).trans rfl, (blk_cell BK331.out 1).trans rfl, (blk_cell BK331.out 2).trans rfl, (blk_cell BK331.out 3).trans rfl, (blk_cell BK331.out 4).trans rfl, (blk_cell BK351.out 0).trans rfl, (blk_cell BK351.out 1).trans rfl, (blk_cell BK351.out 2).trans rfl, (blk_cell BK351.out 3).trans rfl, (blk_cell BK351.out 4).trans rfl⟩ (fun hHeld => ?_)
             clear hK K
             refine norm_ (a' := ?_) ?_ ?_
             rotate_left
             ·show Act.put _ (some 99) _ = _
              simp only [Act.put, List.setIfInBounds_toArray, List.set_cons_zero, List.set_cons_succ, i64_w, i32_w]
              rfl
             exact norm_ (by simp only [putAll, Act.put, List.setIfInBounds_toArray, List.set_cons_zero, List.set_cons_succ]) (hCont (v354, v357, v360, v363) _ ⟨hHeld, (rs_ HO361.out), (rs_ HO364.out), (rs_ HO_308003.out), (rs_ HO_308004.out), (rs_ HO_309003.out), (rs_ HO_309004.out), (rs_ HO_331003.out), (rs_ HO_331004.out), (rs_ HO_332003.out), (rs_ HO_332004.out), (rs_ HO_352003.out), (rs_ HO_352004.out), (rs_ HO_353003.out), (rs_ HO_353004.out), (bq_ BK285.out), (bq_ BK307.out), (bq_ BK308.out), (bq_ BK330.out), (bq_ BK331.out), (bq_ BK351.out), (bq_ BK352.out), bl_⟩)
           rintro ⟨v354, v357, v360, v363⟩ w130 ⟨hS_, h0_, h1_, h2_, h3_, h4_, h5_, h6_, h7_, h8_, h9_, h10_, h11_, h12_, h13_, h14_, h15_, h16_, h17_, h18_, h19_, h20_, h21_⟩
           have HO361 : Aside0 (Kd.R (Kd.int .i64) 3 w130 w.heap.size (fun k_ => some k_ ≠ (v363 : Value).ownBlock ∧ some k_ ≠ (.slice Ao21 t291.length co21 : Value).ownBlock ∧ some k_ ≠ (.slice Ao22 t294.length co22 : Value).ownBlock ∧ some k_ ≠ (.slice Ao25 t300.length co25 : Value).ownBlock ∧ some k_ ≠ (.slice Ao26 t303.length co26 : Value).ownBlock ∧ some k_ ≠ (.slice Ao36 t314.length co36 : Value).ownBlock ∧ some k_ ≠ (.slice Ao37 t317.length co37 : Value).ownBlock ∧ some k_ ≠ (.slice Ao42 t323.length co42 : Value).ownBlock ∧ some k_ ≠ (.slice Ao43 t326.length co43 : Value).ownBlock ∧ some k_ ≠ (.slice Ao56 t335.length co56 : Value).ownBlock ∧ some k_ ≠ (.slice Ao57 t338.length co57 : Value).ownBlock ∧ some k_ ≠ (.slice Ao64 t344.length co64 : Value).ownBlock ∧ some k_ ≠ (.slice Ao65 t347.length co65 : Value).ownBlock) v360 y359) := ⟨h0_⟩
           have HO364 : Aside0 (Kd.R (Kd.int .i64) 3 w130 w.heap.size (fun k_ => some k_ ≠ (v360 : Value).ownBlock ∧ some k_ ≠ (.slice Ao21 t291.length co21 : Value).ownBlock ∧ some k_ ≠ (.slice Ao22 t294.length co22 : Value).ownBlock ∧ some k_ ≠ (.slice Ao25 t300.length co25 : Value).ownBlock ∧ some k_ ≠ (.slice Ao26 t303.length co26 : Value).ownBlock ∧ some k_ ≠ (.slice Ao36 t314.length co36 : Value).ownBlock ∧ some k_ ≠ (.slice Ao37 t317.length co37 : Value).ownBlock ∧ some k_ ≠ (.slice Ao42 t323.length co42 : Value).ownBlock ∧ some k_ ≠ (.slice Ao43 t326.length co43 : Value).ownBlock ∧ some k_ ≠ (.slice Ao56 t335.length co56 : Value).ownBlock ∧ some k_ ≠ (.slice Ao57 t338.length co57 : Value).ownBlock ∧ some k_ ≠ (.slice Ao64 t344.length co64 : Value).ownBlock ∧ some k_ ≠ (.slice Ao65 t347.length co65 : Value).ownBlock) v363 y362) := ⟨h1_⟩
           replace HO_308003 : Aside0 (Kd.R (Kd.int .i64) 3 w130 w.heap.size (fun k_ => some k_ ≠ (v360 : Value).ownBlock ∧ some k_ ≠ (v363 : Value).ownBlock ∧ some k_ ≠ (.slice Ao22 t294.length co22 : Value).ownBlock ∧ some k_ ≠ (.slice Ao25 t300.length co25 : Value).ownBlock ∧ some k_ ≠ (.slice Ao26 t303.length co26 : Value).ownBlock ∧ some k_ ≠ (.slice Ao36 t314.length co36 : Value).ownBlock ∧ some k_ ≠ (.slice Ao37 t317.length co37 : Value).ownBlock ∧ some k_ ≠ (.slice Ao42 t323.length co42 : Value).ownBlock ∧ some k_ ≠ (.slice Ao43 t326.length co43 : Value).ownBlock ∧ some k_ ≠ (.slice Ao56 t335.length co56 : Value).ownBlock ∧ some k_ ≠ (.slice Ao57 t338.length co57 : Value).ownBlock ∧ some k_ ≠ (.slice Ao64 t344.length co64 : Value).ownBlock ∧ some k_ ≠ (.slice Ao65 t347.length co65 : Value).ownBlock) (.slice Ao21 t291.length co21) t291) := ⟨h2_⟩
           replace HO_308004 : Aside0 (Kd.R (Kd.int .i64) 3 w130 w.heap.size (fun k_ => some k_ ≠ (v360 : Value).ownBlock ∧ some k_ ≠ (v363 : Value).ownBlock ∧ some k_ ≠ (.slice Ao21 t291.length co21 : Value).ownBlock ∧ some k_ ≠ (.slice Ao25 t300.length co25 : Value).ownBlock ∧ some k_ ≠ (.slice Ao26 t303.length co26 : Value).ownBlock ∧ some k_ ≠ (.slice Ao36 t314.length co36 : Value).ownBlock ∧ some k_ ≠ (.slice Ao37 t317.length co37 : Value).ownBlock ∧ some k_ ≠ (.slice Ao42 t323.length co42 : Value).ownBlock ∧ some k_ ≠ (.slice Ao43 t326.length co43 : Value).ownBlock ∧ some k_ ≠ (.slice Ao56 t335.length co56 : Value).ownBlock ∧ some k_ ≠ (.slice Ao57 t338.length co57 : Value).ownBlock ∧ some k_ ≠ (.slice Ao64 t344.length co64 : Value).ownBlock ∧ some k_ ≠ (.slice Ao65 t347.length co65 : Value).ownBlock) (.slice Ao22 t294.length co22) t294) := ⟨h3_⟩
           replace HO_309003 : Aside0 (Kd.R (Kd.int .i64) 3 w130 w.heap.size (fun k_ => some k_ ≠ (v360 : Value).ownBlock ∧ some k_ ≠ (v363 : Value).ownBlock ∧ some k_ ≠ (.slice Ao21 t291.length co21 : Value).ownBlock ∧ some k_ ≠ (.slice Ao22 t294.length co22 : Value).ownBlock ∧ some k_ ≠ (.slice Ao26 t303.length co26 : Value).ownBlock ∧ some k_ ≠ (.slice Ao36 t314.length co36 : Value).ownBlock ∧ some k_ ≠ (.slice Ao37 t317.length co37 : Value).ownBlock ∧ some k_ ≠ (.slice Ao42 t323.length co42 : Value).ownBlock ∧ some k_ ≠ (.slice Ao43 t326.length co43 : Value).ownBlock ∧ some k_ ≠ (.slice Ao56 t335.length co56 : Value).ownBlock ∧ some k_ ≠ (.slice Ao57 t338.length co57 : Value).ownBlock ∧ some k_ ≠ (.slice Ao64 t344.length co64 : Value).ownBlock ∧ some k_ ≠ (.slice Ao65 t347.length co65 : Value).ownBlock) (.slice Ao25 t300.length co25) t300) := ⟨h4_⟩
           replace HO_309004 : Aside0 (Kd.R (Kd.int .i64) 3 w130 w.heap.size (fun k_ => some k_ ≠ (v360 : Value).ownBlock ∧ some k_ ≠ (v363 : Value).ownBlock ∧ some k_ ≠ (.slice Ao21 t291.length co21 : Value).ownBlock ∧ some k_ ≠ (.slice Ao22 t294.length co22 : Value).ownBlock ∧ some k_ ≠ (.slice Ao25 t300.length co25 : Value).ownBlock ∧ some k_ ≠ (.slice Ao36 t314.length co36 : Value).ownBlock ∧ some k_ ≠ (.slice Ao37 t317.length co37 : Value).ownBlock ∧ some k_ ≠ (.slice Ao42 t323.length co42 : Value).ownBlock ∧ some k_ ≠ (.slice Ao43 t326.length co43 : Value).ownBlock ∧ some k_ ≠ (.slice Ao56 t335.length co56 : Value).ownBlock ∧ some k_ ≠ (.slice Ao57 t338.length co57 : Value).ownBlock ∧ some k_ ≠ (.slice Ao64 t344.length co64 : Value).ownBlock ∧ some k_ ≠ (.slice Ao65 t347.length co65 : Value).ownBlock) (.slice Ao26 t303.length co26) t303) := ⟨h5_⟩
           replace HO_331003 : Aside0 (Kd.R (Kd.int .i64) 3 w130 w.heap.size (fun k_ => some k_ ≠ (v360 : Value).ownBlock ∧ some k_ ≠ (v363 : Value).ownBlock ∧ some k_ ≠ (.slice Ao21 t291.length co21 : Value).ownBlock ∧ some k_ ≠ (.slice Ao22 t294.length co22 : Value).ownBlock ∧ some k_ ≠ (.slice Ao25 t300.length co25 : Value).ownBlock ∧ some k_ ≠ (.slice Ao26 t303.length co26 : Value).ownBlock ∧ some k_ ≠ (.slice Ao37 t317.length co37 : Value).ownBlock ∧ some k_ ≠ (.slice Ao42 t323.length co42 : Value).ownBlock ∧ some k_ ≠ (.slice Ao43 t326.length co43 : Value).ownBlock ∧ some k_ ≠ (.slice Ao56 t335.length co56 : Value).ownBlock ∧ some k_ ≠ (.slice Ao57 t338.length co57 : Value).ownBlock ∧ some k_ ≠ (.slice Ao64 t344.length co64 : Value).ownBlock ∧ some k_ ≠ (.slice Ao65 t347.length co65 : Value).ownBlock) (.slice Ao36 t314.length co36) t314) := ⟨h6_⟩
           replace HO_331004 : Aside0 (Kd.R (Kd.int .i64) 3 w130 w.heap.size (fun k_ => some k_ ≠ (v360 : Value).ownBlock ∧ some k_ ≠ (v363 : Value).ownBlock ∧ some k_ ≠ (.slice Ao21 t291.length co21 : Value).ownBlock ∧ some k_ ≠ (.slice Ao22 t294.length co22 : Value).ownBlock ∧ some k_ ≠ (.slice Ao25 t300.length co25 : Value).ownBlock ∧ some k_ ≠ (.slice Ao26 t303.length co26 : Value).ownBlock ∧ some k_ ≠ (.slice Ao36 t314.length co36 : Value).ownBlock ∧ some k_ ≠ (.slice Ao42 t323.length co42 : Value).ownBlock ∧ some k_ ≠ (.slice Ao43 t326.length co43 : Value).ownBlock ∧ some k_ ≠ (.slice Ao56 t335.length co56 : Value).ownBlock ∧ some k_ ≠ (.slice Ao57 t338.length co57 : Value).ownBlock ∧ some k_ ≠ (.slice Ao64 t344.length co64 : Value).ownBlock ∧ some k_ ≠ (.slice Ao65 t347.length co65 : Value).ownBlock) (.slice Ao37 t317.length co37) t317) := ⟨h7_⟩
           replace HO_332003 : Aside0 (Kd.R (Kd.int .i64) 3 w130 w.heap.size (fun k_ => some k_ ≠ (v360 : Value).ownBlock ∧ some k_ ≠ (v363 : Value).ownBlock ∧ some k_ ≠ (.slice Ao21 t291.length co21 : Value).ownBlock ∧ some k_ ≠ (.slice Ao22 t294.length co22 : Value).ownBlock ∧ some k_ ≠ (.slice Ao25 t300.length co25 : Value).ownBlock ∧ some k_ ≠ (.slice Ao26 t303.length co26 : Value).ownBlock ∧ some k_ ≠ (.slice Ao36 t314.length co36 : Value).ownBlock ∧ some k_ ≠ (.slice Ao37 t317.length co37 : Value).ownBlock ∧ some k_ ≠ (.slice Ao43 t326.length co43 : Value).ownBlock ∧ some k_ ≠ (.slice Ao56 t335.length co56 : Value).ownBlock ∧ some k_ ≠ (.slice Ao57 t338.length co57 : Value).ownBlock ∧ some k_ ≠ (.slice Ao64 t344.length co64 : Value).ownBlock ∧ some k_ ≠ (.slice Ao65 t347.length co65 : Value).ownBlock) (.slice Ao42 t323.length co42) t323) := ⟨h8_⟩
           replace HO_332004 : Aside0 (Kd.R (Kd.int .i64) 3 w130 w.heap.size (fun k_ => some k_ ≠ (v360 : Value).ownBlock ∧ some k_ ≠ (v363 : Value).ownBlock ∧ some k_ ≠ (.slice Ao21 t291.length co21 : Value).ownBlock ∧ some k_ ≠ (.slice Ao22 t294.length co22 : Value).ownBlock ∧ some k_ ≠ (.slice Ao25 t300.length co25 : Value).ownBlock ∧ some k_ ≠ (.slice Ao26 t303.length co26 : Value).ownBlock ∧ some k_ ≠ (.slice Ao36 t314.length co36 : Value).ownBlock ∧ some k_ ≠ (.slice Ao37 t317.length co37 : Value).ownBlock ∧ some k_ ≠ (.slice Ao42 t323.length co42 : Value).ownBlock ∧ some k_ ≠ (.slice Ao56 t335.length co56 : Value).ownBlock ∧ some k_ ≠ (.slice Ao57 t338.length co57 : Value).ownBlock ∧ some k_ ≠ (.slice Ao64 t344.length co64 : Value).ownBlock ∧ some k_ ≠ (.slice Ao65 t347.length co65 : Value).ownBlock) (.slice Ao43 t326.length co43) t326) := ⟨h9_⟩
           replace HO_352003 : Aside0 (Kd.R (Kd.int .i64) 3 w130 w.heap.size (fun k_ => some k_ ≠ (v360 : Value).ownBlock ∧ some k_ ≠ (v363 : Value).ownBlock ∧ some k_ ≠ (.slice Ao21 t291.length co21 : Value).ownBlock ∧ some k_ ≠ (.slice Ao22 t294.length co22 : Value).ownBlock ∧ some k_ ≠ (.slice Ao25 t300.length co25 : Value).ownBlock ∧ some k_ ≠ (.slice Ao26 t303.length co26 : Value).ownBlock ∧ some k_ ≠ (.slice Ao36 t314.length co36 : Value).ownBlock ∧ some k_ ≠ (.slice Ao37 t317.length co37 : Value).ownBlock ∧ some k_ ≠ (.slice Ao42 t323.length co42 : Value).ownBlock ∧ some k_ ≠ (.slice Ao43 t326.length co43 : Value).ownBlock ∧ some k_ ≠ (.slice Ao57 t338.length co57 : Value).ownBlock ∧ some k_ ≠ (.slice Ao64 t344.length co64 : Value).ownBlock ∧ some k_ ≠ (.slice Ao65 t347.length co65 : Value).ownBlock) (.slice Ao56 t335.length co56) t335) := ⟨h10_⟩
           replace HO_352004 : Aside0 (Kd.R (Kd.int .i64) 3 w130 w.heap.size (fun k_ => some k_ ≠ (v360 : Value).ownBlock ∧ some k_ ≠ (v363 : Value).ownBlock ∧ some k_ ≠ (.slice Ao21 t291.length co21 : Value).ownBlock ∧ some k_ ≠ (.slice Ao22 t294.length co22 : Value).ownBlock ∧ some k_ ≠ (.slice Ao25 t300.length co25 : Value).ownBlock ∧ some k_ ≠ (.slice Ao26 t303.length co26 : Value).ownBlock ∧ some k_ ≠ (.slice Ao36 t314.length co36 : Value).ownBlock ∧ some k_ ≠ (.slice Ao37 t317.length co37 : Value).ownBlock ∧ some k_ ≠ (.slice Ao42 t323.length co42 : Value).ownBlock ∧ some k_ ≠ (.slice Ao43 t326.length co43 : Value).ownBlock ∧ some k_ ≠ (.slice Ao56 t335.length co56 : Value).ownBlock ∧ some k_ ≠ (.slice Ao64 t344.length co64 : Value).ownBlock ∧ some k_ ≠ (.slice Ao65 t347.length co65 : Value).ownBlock) (.slice Ao57 t338.length co57) t338) := ⟨h11_⟩
           replace HO_353003 : Aside0 (Kd.R (Kd.int .i64) 3 w130 w.heap.size (fun k_ => some k_ ≠ (v360 : Value).ownBlock ∧ some k_ ≠ (v363 : Value).ownBlock ∧ some k_ ≠ (.slice Ao21 t291.length co21 : Value).ownBlock ∧ some k_ ≠ (.slice Ao22 t294.length co22 : Value).ownBlock ∧ some k_ ≠ (.slice Ao25 t300.length co25 : Value).ownBlock ∧ some k_ ≠ (.slice Ao26 t303.length co26 : Value).ownBlock ∧ some k_ ≠ (.slice Ao36 t314.length co36 : Value).ownBlock ∧ some k_ ≠ (.slice Ao37 t317.length co37 : Value).ownBlock ∧ some k_ ≠ (.slice Ao42 t323.length co42 : Value).ownBlock ∧ some k_ ≠ (.slice Ao43 t326.length co43 : Value).ownBlock ∧ some k_ ≠ (.slice Ao56 t335.length co56 : Value).ownBlock ∧ some k_ ≠ (.slice Ao57 t338.length co57 : Value).ownBlock ∧ some k_ ≠ (.slice Ao65 t347.length co65 : Value).ownBlock) (.slice Ao64 t344.length co64) t344) := ⟨h12_⟩
           replace HO_353004 : Aside0 (Kd.R (Kd.int .i64) 3 w130 w.heap.size (fun k_ => some k_ ≠ (v360 : Value).ownBlock ∧ some k_ ≠ (v363 : Value).ownBlock ∧ some k_ ≠ (.slice Ao21 t291.length co21 : Value).ownBlock ∧ some k_ ≠ (.slice Ao22 t294.length co22 : Value).ownBlock ∧ some k_ ≠ (.slice Ao25 t300.length co25 : Value).ownBlock ∧ some k_ ≠ (.slice Ao26 t303.length co26 : Value).ownBlock ∧ some k_ ≠ (.slice Ao36 t314.length co36 : Value).ownBlock ∧ some k_ ≠ (.slice Ao37 t317.length co37 : Value).ownBlock ∧ some k_ ≠ (.slice Ao42 t323.length co42 : Value).ownBlock ∧ some k_ ≠ (.slice Ao43 t326.length co43 : Value).ownBlock ∧ some k_ ≠ (.slice Ao56 t335.length co56 : Value).ownBlock ∧ some k_ ≠ (.slice Ao57 t338.length co57 : Value).ownBlock ∧ some k_ ≠ (.slice Ao64 t344.length co64 : Value).ownBlock) (.slice Ao65 t347.length co65) t347) := ⟨h13_⟩
           replace BK285 : Aside0 (w130.heap[gb285]? = some (.cells #[.slice A0_0 l0_0.length c0_0, .slice A0_1 l0_1.length c0_1] 25 (0, 0))) := ⟨h14_⟩
           replace BK307 : Aside0 (w130.heap[gb307]? = some (.cells #[.int .i64 t288, .int .i64 t289, .int .i64 t290, .slice Ao21 t291.length co21, .slice Ao22 t294.length co22] 30 (0, 0))) := ⟨h15_⟩
           replace BK308 : Aside0 (w130.heap[gb308]? = some (.cells #[.int .i64 t297, .int .i64 t298, .int .i64 t299, .slice Ao25 t300.length co25, .slice Ao26 t303.length co26] 30 (0, 0))) := ⟨h16_⟩
           replace BK330 : Aside0 (w130.heap[gb330]? = some (.cells #[.int .i64 t311, .int .i64 t312, .int .i64 t313, .slice Ao36 t314.length co36, .slice Ao37 t317.length co37] 30 (0, 0))) := ⟨h17_⟩
           replace BK331 : Aside0 (w130.heap[gb331]? = some (.cells #[.int .i64 t320, .int .i64 t321, .int .i64 t322, .slice Ao42 t323.length co42, .slice Ao43 t326.length co43] 30 (0, 0))) := ⟨h18_⟩
           replace BK351 : Aside0 (w130.heap[gb351]? = some (.cells #[.int .i64 t332, .int .i64 t333, .int .i64 t334, .slice Ao56 t335.length co56, .slice Ao57 t338.length co57] 30 (0, 0))) := ⟨h19_⟩
           replace BK352 : Aside0 (w130.heap[gb352]? = some (.cells #[.int .i64 t341, .int .i64 t342, .int .i64 t343, .slice Ao64 t344.length co64, .slice Ao65 t347.length co65] 30 (0, 0))) := ⟨h20_⟩
           replace HB : Aside0 (Below w.heap.size w w130) := ⟨h21_⟩
           clear h0_ h1_ h2_ h3_ h4_ h5_ h6_ h7_ h8_ h9_ h10_ h11_ h12_ h13_ h14_ h15_ h16_ h17_ h18_ h19_ h20_ h21_
           have hHeld : w130.cell? ⟨gb331, 0, none⟩ = some (.int .i64 t320) ∧ w130.cell? ⟨gb331, 1, none⟩ = some (.int .i64 t321) ∧ w130.cell? ⟨gb331, 2, none⟩ = some (.int .i64 t322) ∧ w130.cell? ⟨gb331, 3, none⟩ = some (.slice Ao42 t323.length co42) ∧ w130.cell? ⟨gb331, 4, none⟩ = some (.slice Ao43 t326.length co43) ∧ w130.cell? ⟨gb351, 0, none⟩ = some (.int .i64 t332) ∧ w130.cell? ⟨gb351, 1, none⟩ = some (.int .i64 t333) ∧ w130.cell? ⟨gb351, 2, none⟩ = some (.int .i64 t334) ∧ w130.cell? ⟨gb351, 3, none⟩ = some (.slice Ao56 t335.length co56) ∧ w130.cell? ⟨gb351, 4, none⟩ = some (.slice Ao57 t338.length co57) := hS_
           refine norm_ (a' := ?_) ?_ ?_
           rotate_left
           ·simp only [putAll, Act.put, List.setIfInBounds_toArray, List.set_cons_zero, List.set_cons_succ]
            rfl
           refine one_ (i := 10) (N := some 103) #[true, true, true, true, true, true, true, true, true, true, true, true, true, false, false, false, true] rfl rfl (one_of HT_.out (by kernel_rfl)) (by decide) (fun K hK => ?_)
           refine Kd.R_append_rows_step (Kd.int .i64) (w0 := w) w.heap.size (by rfl) (.tmp 100) (.tmp 102) 28 3 (.int .i64 0) 8 rfl Try.underlying28 info3 rfl (by decide) (by omega) v363 y362 t335 _ _ _ (fun k_ => some k_ ≠ (.slice Ao21 t291.length co21 : Value).ownBlock ∧ some k_ ≠ (.slice Ao22 t294.length co22 : Value).ownBlock ∧ some k_ ≠ (.slice Ao25 t300.length co25 : Value).ownBlock ∧ some k_ ≠ (.slice Ao26 t303.length co26 : Value).ownBlock ∧ some k_ ≠ (.slice Ao36 t314.length co36 : Value).ownBlock ∧ some k_ ≠ (.slice Ao37 t317.length co37 : Value).ownBlock ∧ some k_ ≠ (.slice Ao42 t323.length co42 : Value).ownBlock ∧ some k_ ≠ (.slice Ao43 t326.length co43 : Value).ownBlock ∧ some k_ ≠ (.slice Ao56 t335.length co56 : Value).ownBlock ∧ some k_ ≠ (.slice Ao57 t338.length co57 : Value).ownBlock ∧ some k_ ≠ (.slice Ao64 t344.length co64 : Value).ownBlock ∧ some k_ ≠ (.slice Ao65 t347.length co65 : Value).ownBlock ∧ some k_ ≠ (v360 : Value).ownBlock) (fun _ => False) rfl rfl ?aO ?aR (fun _ _ h => h) (fun _ h => h.elim) ?aF ?aB ?aS ?aL ?_
           (case aR => exact kc_ (Kd.R_reads' HO_352003.out).2.2)
           (case aB => exact bl_)
           (case aF => exact (fun k_ hk => ⟨fr_ HO_308003.out hk, fr_ HO_308004.out hk, fr_ HO_309003.out hk, fr_ HO_309004.out hk, fr_ HO_331003.out hk, fr_ HO_331004.out hk, fr_ HO_332003.out hk, fr_ HO_332004.out hk, fr_ HO_352003.out hk, fr_ HO_352004.out hk, fr_ HO_353003.out hk, fr_ HO_353004.out hk, fr_ HO361.out hk⟩))
           (case aO => exact (rs_ HO364.out))
           (case aS => exact (below_size bl_))
           (case aL => have := LMc120.out; omega)
           intro v366 w131 ho hb hg hat
           rw [← Ny365.out] at ho
           have HO367 := Aside0.mk (ho)
           replace HO_308003 := ra_ HO_308003.out hg hat
           replace HO_308004 := ra_ HO_308004.out hg hat
           replace HO_309003 := ra_ HO_309003.out hg hat
           replace HO_309004 := ra_ HO_309004.out hg hat
           replace HO_331003 := ra_ HO_331003.out hg hat
           replace HO_331004 := ra_ HO_331004.out hg hat
           replace HO_332003 := ra_ HO_332003.out hg hat
           replace HO_332004 := ra_ HO_332004.out hg hat
           replace HO_352003 := ra_ HO_352003.out hg hat
           replace HO_352004 := ra_ HO_352004.out hg hat
           replace HO_353003 := ra_ HO_353003.out hg hat
           replace HO_353004 := ra_ HO_353004.out hg hat
           replace BK285 := bg_ BK285.out hg (Kd.R_ne HO364.out BK285.out (by decide))
           replace BK307 := bg_ BK307.out hg (Kd.R_ne HO364.out BK307.out (by decide))
           replace BK308 := bg_ BK308.out hg (Kd.R_ne HO364.out BK308.out (by decide))
           replace BK330 := bg_ BK330.out hg (Kd.R_ne HO364.out BK330.out (by decide))
           replace BK331 := bg_ BK331.out hg (Kd.R_ne HO364.out BK331.out (by decide))
           replace BK351 := bg_ BK351.out hg (Kd.R_ne HO364.out BK351.out (by decide))
           replace BK352 := bg_ BK352.out hg (Kd.R_ne HO364.out BK352.out (by decide))
           replace HO361 := ra_ HO361.out hg hat
           replace HB := Aside0.mk (hb)
           clear HO364
           clear ho hb hg hat
           refine hK.out _ _ ⟨(blk_cell BK331.out 0).trans rfl, (blk_cell BK331.out 1).trans rfl, (blk_cell BK331.out 2).trans rfl, (blk_cell BK331.out 3).trans rfl, (blk_cell BK331.out 4).trans rfl, (blk_cell BK351.out 0).trans rfl, (blk_cell BK351.out 1).trans rfl, (blk_cell BK351.out 2).trans rfl, (blk_cell BK351.out 3).trans rfl, (blk_cell BK351.out 4).trans rfl⟩ (fun hHeld => ?_)
           clear hK K
           refine norm_ (a' := ?_) ?_ ?_
           rotate_left
           ·show Act.put _ (some 103) _ = _
            simp only [Act.put, List.setIfInBounds_toArray, List.set_cons_zero, List.set_cons_succ, i64_w, i32_w]
            rfl
           refine one_ (i := 13) (N := some 106) #[true, true, true, true, true, true, true, true, true, true, true, true, true, true, false, false, true] rfl rfl (one_of HT_.out (by kernel_rfl)) (by decide) (fun K hK => ?_)
           refine Kd.R_append_rows_step (Kd.int .i64) (w0 := w) w.heap.size (by rfl) (.tmp 103) (.tmp 105) 28 3 (.int .i64 0) 8 rfl Try.underlying28 info3 rfl (by decide) (by omega) v366 y365 t338 _ _ _ (fun k_ => some k_ ≠ (.slice Ao21 t291.length co21 : Value).ownBlock ∧ some k_ ≠ (.slice Ao22 t294.length co22 : Value).ownBlock ∧ some k_ ≠ (.slice Ao25 t300.length co25 : Value).ownBlock ∧ some k_ ≠ (.slice Ao26 t303.length co26 : Value).ownBlock ∧ some k_ ≠ (.slice Ao36 t314.length co36 : Value).ownBlock ∧ some k_ ≠ (.slice Ao37 t317.length co37 : Value).ownBlock ∧ some k_ ≠ (.slice Ao42 t323.length co42 : Value).ownBlock ∧ some k_ ≠ (.slice Ao43 t326.length co43 : Value).ownBlock ∧ some k_ ≠ (.slice Ao56 t335.length co56 : Value).ownBlock ∧ some k_ ≠ (.slice Ao57 t338.length co57 : Value).ownBlock ∧ some k_ ≠ (.slice Ao64 t344.length co64 : Value).ownBlock ∧ some k_ ≠ (.slice Ao65 t347.length co65 : Value).ownBlock ∧ some k_ ≠ (v360 : Value).ownBlock) (fun _ => False) rfl rfl ?aO ?aR (fun _ _ h => h) (fun _ h => h.elim) ?aF ?aB ?aS ?aL ?_
           (case aR => exact kc_ (Kd.R_reads' HO_352004.out).2.2)
           (case aB => exact bl_)
           (case aF => exact (fun k_ hk => ⟨fr_ HO_308003.out hk, fr_ HO_308004.out hk, fr_ HO_309003.out hk, fr_ HO_309004.out hk, fr_ HO_331003.out hk, fr_ HO_331004.out hk, fr_ HO_332003.out hk, fr_ HO_332004.out hk, fr_ HO_352003.out hk, fr_ HO_352004.out hk, fr_ HO_353003.out hk, fr_ HO_353004.out hk, fr_ HO361.out hk⟩))
           (case aO => exact (rs_ HO367.out))
           (case aS => exact (below_size bl_))
           (case aL => have := LMc121.out; omega)
           intro v369 w132 ho hb hg hat
           rw [← Ny368.out] at ho
           have HO370 := Aside0.mk (ho)
           replace HO_308003 := ra_ HO_308003.out hg hat
           replace HO_308004 := ra_ HO_308004.out hg hat
           replace HO_309003 := ra_ HO_309003.out hg hat
           replace HO_309004 := ra_ HO_309004.out hg hat
           replace HO_331003 := ra_ HO_331003.out hg hat
           replace HO_331004 := ra_ HO_331004.out hg hat
           replace HO_332003 := ra_ HO_332003.out hg hat
           replace HO_332004 := ra_ HO_332004.out hg hat
           replace HO_352003 := ra_ HO_352003.out hg hat
           replace HO_352004 := ra_ HO_352004.out hg hat
           replace HO_353003 := ra_ HO_353003.out hg hat
           replace HO_353004 := ra_ HO_353004.out hg hat
           replace BK285 := bg_ BK285.out hg (Kd.R_ne HO367.out BK285.out (by decide))
           replace BK307 := bg_ BK307.out hg (Kd.R_ne HO367.out BK307.out (by decide))
           replace BK308 := bg_ BK308.out hg (Kd.R_ne HO367.out BK308.out (by decide))
           replace BK330 := bg_ BK330.out hg (Kd.R_ne HO367.out BK330.out (by decide))
           replace BK331 := bg_ BK331.out hg (Kd.R_ne HO367.out BK331.out (by decide))
           replace BK351 := bg_ BK351.out hg (Kd.R_ne HO367.out BK351.out (by decide))
           replace BK352 := bg_ BK352.out hg (Kd.R_ne HO367.out BK352.out (by decide))
           replace HO361 := ra_ HO361.out hg hat
           replace HB := Aside0.mk (hb)
           clear HO367
           clear ho hb hg hat
           obtain ⟨Ao134, co134, eo134⟩ := Kd.R_slice HO370.out
           (first | subst eo134 | (injection eo134 with f1_ f2_ f3_; have f4_ := f1_.symm; have f5_ := f3_.symm; clear f1_ f2_ f3_; subst f4_; subst f5_))
           refine hK.out _ _ ⟨(blk_cell BK331.out 0).trans rfl, (blk_cell BK331.out 1).trans rfl, (blk_cell BK331.out 2).trans rfl, (blk_cell BK331.out 3).trans rfl, (blk_cell BK331.out 4).trans rfl, (blk_cell BK351.out 0).trans rfl, (blk_cell BK351.out 1).trans rfl, (blk_cell BK351.out 2).trans rfl, (blk_cell BK351.out 3).trans rfl, (blk_cell BK351.out 4).trans rfl⟩ (fun hHeld => ?_)
           clear hK K
           refine norm_ (a' := ?_) ?_ ?_
           rotate_left
           ·show Act.put _ (some 106) _ = _
            simp only [Act.put, List.setIfInBounds_toArray, List.set_cons_zero, List.set_cons_succ, i64_w, i32_w]
            rfl
           refine one_ (i := 14) (N := some 107) #[true, true, true, true, true, true, true, true, true, true, true, true, true, true, true, false, true] rfl rfl (one_of HT_.out (by kernel_rfl)) (by decide) (fun K hK => ?_)
           refine Kd.R_append_rows_step (Kd.int .i64) (w0 := w) w.heap.size (by rfl) (.tmp 99) (.tmp 106) 28 3 (.int .i64 0) 8 rfl Try.underlying28 info3 rfl (by decide) (by omega) v360 y359 y368 _ _ _ (fun k_ => some k_ ≠ (.slice Ao21 t291.length co21 : Value).ownBlock ∧ some k_ ≠ (.slice Ao22 t294.length co22 : Value).ownBlock ∧ some k_ ≠ (.slice Ao25 t300.length co25 : Value).ownBlock ∧ some k_ ≠ (.slice Ao26 t303.length co26 : Value).ownBlock ∧ some k_ ≠ (.slice Ao36 t314.length co36 : Value).ownBlock ∧ some k_ ≠ (.slice Ao37 t317.length co37 : Value).ownBlock ∧ some k_ ≠ (.slice Ao42 t323.length co42 : Value).ownBlock ∧ some k_ ≠ (.slice Ao43 t326.length co43 : Value).ownBlock ∧ some k_ ≠ (.slice Ao56 t335.length co56 : Value).ownBlock ∧ some k_ ≠ (.slice Ao57 t338.length co57 : Value).ownBlock ∧ some k_ ≠ (.slice Ao64 t344.length co64 : Value).ownBlock ∧ some k_ ≠ (.slice Ao65 t347.length co65 : Value).ownBlock ∧ some k_ ≠ (.slice Ao134 y368.length co134 : Value).ownBlock) (fun _ => False) rfl rfl ?aO ?aR (fun _ _ h => h) (fun _ h => h.elim) ?aF ?aB ?aS ?aL ?_
           (case aR => exact kc_ (Kd.R_reads' HO370.out).2.2)
           (case aB => exact bl_)
           (case aF => exact (fun k_ hk => ⟨fr_ HO_308003.out hk, fr_ HO_308004.out hk, fr_ HO_309003.out hk, fr_ HO_309004.out hk, fr_ HO_331003.out hk, fr_ HO_331004.out hk, fr_ HO_332003.out hk, fr_ HO_332004.out hk, fr_ HO_352003.out hk, fr_ HO_352004.out hk, fr_ HO_353003.out hk, fr_ HO_353004.out hk, fr_ HO370.out hk⟩))
           (case aO => exact (rs_ HO361.out))
           (case aS => exact (below_size bl_))
           (case aL => have := LMc122.out; omega)
           intro v372 w133 ho hb hg hat
           rw [← Ny371.out] at ho
           have HO373 := Aside0.mk (ho)
           replace HO_308003 := ra_ HO_308003.out hg hat
           replace HO_308004 := ra_ HO_308004.out hg hat
           replace HO_309003 := ra_ HO_309003.out hg hat
           replace HO_309004 := ra_ HO_309004.out hg hat
           replace HO_331003 := ra_ HO_331003.out hg hat
           replace HO_331004 := ra_ HO_331004.out hg hat
           replace HO_332003 := ra_ HO_332003.out hg hat
           replace HO_332004 := ra_ HO_332004.out hg hat
           replace HO_352003 := ra_ HO_352003.out hg hat
           replace HO_352004 := ra_ HO_352004.out hg hat
           replace HO_353003 := ra_ HO_353003.out hg hat
           replace HO_353004 := ra_ HO_353004.out hg hat
           replace BK285 := bg_ BK285.out hg (Kd.R_ne HO361.out BK285.out (by decide))
           replace BK307 := bg_ BK307.out hg (Kd.R_ne HO361.out BK307.out (by decide))
           replace BK308 := bg_ BK308.out hg (Kd.R_ne HO361.out BK308.out (by decide))
           replace BK330 := bg_ BK330.out hg (Kd.R_ne HO361.out BK330.out (by decide))
           replace BK331 := bg_ BK331.out hg (Kd.R_ne HO361.out BK331.out (by decide))
           replace BK351 := bg_ BK351.out hg (Kd.R_ne HO361.out BK351.out (by decide))
           replace BK352 := bg_ BK352.out hg (Kd.R_ne HO361.out BK352.out (by decide))
           replace HO370 := ra_ HO370.out hg hat
           replace HB := Aside0.mk (hb)
           clear HO361
           clear ho hb hg hat
           obtain ⟨Ao135, co135, eo135⟩ := Kd.R_slice HO373.out
           (first | subst eo135 | (injection eo135 with f1_ f2_ f3_; have f4_ := f1_.symm; have f5_ := f3_.symm; clear f1_ f2_ f3_; subst f4_; subst f5_))
           refine hK.out _ _ ⟨(blk_cell BK331.out 0).trans rfl, (blk_cell BK331.out 1).trans rfl, (blk_cell BK331.out 2).trans rfl, (blk_cell BK331.out 3).trans rfl, (blk_cell BK331.out 4).trans rfl, (blk_cell BK351.out 0).trans rfl, (blk_cell BK351.out 1).trans rfl, (blk_cell BK351.out 2).trans rfl, (blk_cell BK351.out 3).trans rfl, (blk_cell BK351.out 4).trans rfl⟩ (fun hHeld => ?_)
           clear hK K
           refine norm_ (a' := ?_) ?_ ?_
           rotate_left
           ·show Act.put _ (some 107) _ = _
            simp only [Act.put, List.setIfInBounds_toArray, List.set_cons_zero, List.set_cons_succ, i64_w, i32_w]
            rfl
           refine pure_ (i := 15) (N := some 108) (v := ?_) (a' := ?_) #[true, true, true, true, true, true, true, true, true, true, true, true, true, true, true, true, true] rfl rfl (any_of HT_.out (by kernel_rfl)) (fun _ _ _ h => h) (Or.inl ⟨by rfl, ?_⟩) ?_ ?_
           rotate_left
           ·intro w'
            go_simp
            with_reducible rfl
           rotate_left
           ·simp only [Act.put, List.setIfInBounds_toArray, List.set_cons_zero, List.set_cons_succ, i64_w, i32_w]
            rfl
           refine done_ (done_of HT_.out (by kernel_rfl)) ?_
           try go_wp2
           go_loopg [109] kj9 (fun kq v109 w' => ∃ (x109_2 : Int), v109 = .int .i64 x109_2 ∧ Aside0 (paymasterlaw14_WithholdNone.l0 kq y371 (y371.length : Int) x109_2 t288 t289 t290 t291 t294 t311 t312 t313 t314 t317 = some r) ∧ Aside0 (kq ≤ kj9) ∧ Aside0 (Kd.R (Kd.int .i64) 3 w' w.heap.size (fun k_ => some k_ ≠ ((.slice Ao21 t291.length co21) : Value).ownBlock ∧ some k_ ≠ ((.slice Ao22 t294.length co22) : Value).ownBlock ∧ some k_ ≠ ((.slice Ao25 t300.length co25) : Value).ownBlock ∧ some k_ ≠ ((.slice Ao26 t303.length co26) : Value).ownBlock ∧ some k_ ≠ ((.slice Ao36 t314.length co36) : Value).ownBlock ∧ some k_ ≠ ((.slice Ao37 t317.length co37) : Value).ownBlock ∧ some k_ ≠ ((.slice Ao42 t323.length co42) : Value).ownBlock ∧ some k_ ≠ ((.slice Ao43 t326.length co43) : Value).ownBlock ∧ some k_ ≠ ((.slice Ao56 t335.length co56) : Value).ownBlock ∧ some k_ ≠ ((.slice Ao57 t338.length co57) : Value).ownBlock ∧ some k_ ≠ ((.slice Ao64 t344.length co64) : Value).ownBlock ∧ some k_ ≠ ((.slice Ao65 t347.length co65) : Value).ownBlock) (.slice Ao135 y371.length co135) y371) ∧ Aside0 (Kd.R (Kd.int .i64) 3 w' w.heap.size (fun k_ => some k_ ≠ ((.slice Ao135 y371.length co135) : Value).ownBlock ∧ some k_ ≠ ((.slice Ao22 t294.length co22) : Value).ownBlock ∧ some k_ ≠ ((.slice Ao25 t300.length co25) : Value).ownBlock ∧ some k_ ≠ ((.slice Ao26 t303.length co26) : Value).ownBlock ∧ some k_ ≠ ((.slice Ao36 t314.length co36) : Value).ownBlock ∧ some k_ ≠ ((.slice Ao37 t317.length co37) : Value).ownBlock ∧ some k_ ≠ ((.slice Ao42 t323.length co42) : Value).ownBlock ∧ some k_ ≠ ((.slice Ao43 t326.length co43) : Value).ownBlock ∧ some k_ ≠ ((.slice Ao56 t335.length co56) : Value).ownBlock ∧ some k_ ≠ ((.slice Ao57 t338.length co57) : Value).ownBlock ∧ some k_ ≠ ((.slice Ao64 t344.length co64) : Value).ownBlock ∧ some k_ ≠ ((.slice Ao65 t347.length co65) : Value).ownBlock) (.slice Ao21 t291.length co21) t291) ∧ Aside0 (Kd.R (Kd.int .i64) 3 w' w.heap.size (fun k_ => some k_ ≠ ((.slice Ao135 y371.length co135) : Value).ownBlock ∧ some k_ ≠ ((.slice Ao21 t291.length co21) : Value).ownBlock ∧ some k_ ≠ ((.slice Ao25 t300.length co25) : Value).ownBlock ∧ some k_ ≠ ((.slice Ao26 t303.length co26) : Value).ownBlock ∧ some k_ ≠ ((.slice Ao36 t314.length co36) : Value).ownBlock ∧ some k_ ≠ ((.slice Ao37 t317.length co37) : Value).ownBlock ∧ some k_ ≠ ((.slice Ao42 t323.length co42) : Value).ownBlock ∧ some k_ ≠ ((.slice Ao43 t326.length co43) : Value).ownBlock ∧ some k_ ≠ ((.slice Ao56 t335.length co56) : Value).ownBlock ∧ some k_ ≠ ((.slice Ao57 t338.length co57) : Value).ownBlock ∧ some k_ ≠ ((.slice Ao64 t344.length co64) : Value).ownBlock ∧ some k_ ≠ ((.slice Ao65 t347.length co65) : Value).ownBlock) (.slice Ao22 t294.length co22) t294) ∧ Aside0 (Kd.R (Kd.int .i64) 3 w' w.heap.size (fun k_ => some k_ ≠ ((.slice Ao135 y371.length co135) : Value).ownBlock ∧ some k_ ≠ ((.slice Ao21 t291.length co21) : Value).ownBlock ∧ some k_ ≠ ((.slice Ao22 t294.length co22) : Value).ownBlock ∧ some k_ ≠ ((.slice Ao26 t303.length co26) : Value).ownBlock ∧ some k_ ≠ ((.slice Ao36 t314.length co36) : Value).ownBlock ∧ some k_ ≠ ((.slice Ao37 t317.length co37) : Value).ownBlock ∧ some k_ ≠ ((.slice Ao42 t323.length co42) : Value).ownBlock ∧ some k_ ≠ ((.slice Ao43 t326.length co43) : Value).ownBlock ∧ some k_ ≠ ((.slice Ao56 t335.length co56) : Value).ownBlock ∧ some k_ ≠ ((.slice Ao57 t338.length co57) : Value).ownBlock ∧ some k_ ≠ ((.slice Ao64 t344.length co64) : Value).ownBlock ∧ some k_ ≠ ((.slice Ao65 t347.length co65) : Value).ownBlock) (.slice Ao25 t300.length co25) t300) ∧ Aside0 (Kd.R (Kd.int .i64) 3 w' w.heap.size (fun k_ => some k_ ≠ ((.slice Ao135 y371.length co135) : Value).ownBlock ∧ some k_ ≠ ((.slice Ao21 t291.length co21) : Value).ownBlock ∧ some k_ ≠ ((.slice Ao22 t294.length co22) : Value).ownBlock ∧ some k_ ≠ ((.slice Ao25 t300.length co25) : Value).ownBlock ∧ some k_ ≠ ((.slice Ao36 t314.length co36) : Value).ownBlock ∧ some k_ ≠ ((.slice Ao37 t317.length co37) : Value).ownBlock ∧ some k_ ≠ ((.slice Ao42 t323.length co42) : Value).ownBlock ∧ some k_ ≠ ((.slice Ao43 t326.length co43) : Value).ownBlock ∧ some k_ ≠ ((.slice Ao56 t335.length co56) : Value).ownBlock ∧ some k_ ≠ ((.slice Ao57 t338.length co57) : Value).ownBlock ∧ some k_ ≠ ((.slice Ao64 t344.length co64) : Value).ownBlock ∧ some k_ ≠ ((.slice Ao65 t347.length co65) : Value).ownBlock) (.slice Ao26 t303.length co26) t303) ∧ Aside0 (Kd.R (Kd.int .i64) 3 w' w.heap.size (fun k_ => some k_ ≠ ((.slice Ao135 y371.length co135) : Value).ownBlock ∧ some k_ ≠ ((.slice Ao21 t291.length co21) : Value).ownBlock ∧ some k_ ≠ ((.slice Ao22 t294.length co22) : Value).ownBlock ∧ some k_ ≠ ((.slice Ao25 t300.length co25) : Value).ownBlock ∧ some k_ ≠ ((.slice Ao26 t303.length co26) : Value).ownBlock ∧ some k_ ≠ ((.slice Ao37 t317.length co37) : Value).ownBlock ∧ some k_ ≠ ((.slice Ao42 t323.length co42) : Value).ownBlock ∧ some k_ ≠ ((.slice Ao43 t326.length co43) : Value).ownBlock ∧ some k_ ≠ ((.slice Ao56 t335.length co56) : Value).ownBlock ∧ some k_ ≠ ((.slice Ao57 t338.length co57) : Value).ownBlock ∧ some k_ ≠ ((.slice Ao64 t344.length co64) : Value).ownBlock ∧ some k_ ≠ ((.slice Ao65 t347.length co65) : Value).ownBlock) (.slice Ao36 t314.length co36) t314) ∧ Aside0 (Kd.R (Kd.int .i64) 3 w' w.heap.size (fun k_ => some k_ ≠ ((.slice Ao135 y371.length co135) : Value).ownBlock ∧ some k_ ≠ ((.slice Ao21 t291.length co21) : Value).ownBlock ∧ some k_ ≠ ((.slice Ao22 t294.length co22) : Value).ownBlock ∧ some k_ ≠ ((.slice Ao25 t300.length co25) : Value).ownBlock ∧ some k_ ≠ ((.slice Ao26 t303.length co26) : Value).ownBlock ∧ some k_ ≠ ((.slice Ao36 t314.length co36) : Value).ownBlock ∧ some k_ ≠ ((.slice Ao42 t323.length co42) : Value).ownBlock ∧ some k_ ≠ ((.slice Ao43 t326.length co43) : Value).ownBlock ∧ some k_ ≠ ((.slice Ao56 t335.length co56) : Value).ownBlock ∧ some k_ ≠ ((.slice Ao57 t338.length co57) : Value).ownBlock ∧ some k_ ≠ ((.slice Ao64 t344.length co64) : Value).ownBlock ∧ some k_ ≠ ((.slice Ao65 t347.length co65) : Value).ownBlock) (.slice Ao37 t317.length co37) t317) ∧ Aside0 (Kd.R (Kd.int .i64) 3 w' w.heap.size (fun k_ => some k_ ≠ ((.slice Ao135 y371.length co135) : Value).ownBlock ∧ some k_ ≠ ((.slice Ao21 t291.length co21) : Value).ownBlock ∧ some k_ ≠ ((.slice Ao22 t294.length co22) : Value).ownBlock ∧ some k_ ≠ ((.slice Ao25 t300.length co25) : Value).ownBlock ∧ some k_ ≠ ((.slice Ao26 t303.length co26) : Value).ownBlock ∧ some k_ ≠ ((.slice Ao36 t314.length co36) : Value).ownBlock ∧ some k_ ≠ ((.slice Ao37 t317.length co37) : Value).ownBlock ∧ some k_ ≠ ((.slice Ao43 t326.length co43) : Value).ownBlock ∧ some k_ ≠ ((.slice Ao56 t335.length co56) : Value).ownBlock ∧ some k_ ≠ ((.slice Ao57 t338.length co57) : Value).ownBlock ∧ some k_ ≠ ((.slice Ao64 t344.length co64) : Value).ownBlock ∧ some k_ ≠ ((.slice Ao65 t347.length co65) : Value).ownBlock) (.slice Ao42 t323.length co42) t323) ∧ Aside0 (Kd.R (Kd.int .i64) 3 w' w.heap.size (fun k_ => some k_ ≠ ((.slice Ao135 y371.length co135) : Value).ownBlock ∧ some k_ ≠ ((.slice Ao21 t291.length co21) : Value).ownBlock ∧ some k_ ≠ ((.slice Ao22 t294.length co22) : Value).ownBlock ∧ some k_ ≠ ((.slice Ao25 t300.length co25) : Value).ownBlock ∧ some k_ ≠ ((.slice Ao26 t303.length co26) : Value).ownBlock ∧ some k_ ≠ ((.slice Ao36 t314.length co36) : Value).ownBlock ∧ some k_ ≠ ((.slice Ao37 t317.length co37) : Value).ownBlock ∧ some k_ ≠ ((.slice Ao42 t323.length co42) : Value).ownBlock ∧ some k_ ≠ ((.slice Ao56 t335.length co56) : Value).ownBlock ∧ some k_ ≠ ((.slice Ao57 t338.length co57) : Value).ownBlock ∧ some k_ ≠ ((.slice Ao64 t344.length co64) : Value).ownBlock ∧ some k_ ≠ ((.slice Ao65 t347.length co65) : Value).ownBlock) (.slice Ao43 t326.length co43) t326) ∧ Aside0 (Kd.R (Kd.int .i64) 3 w' w.heap.size (fun k_ => some k_ ≠ ((.slice Ao135 y371.length co135) : Value).ownBlock ∧ some k_ ≠ ((.slice Ao21 t291.length co21) : Value).ownBlock ∧ some k_ ≠ ((.slice Ao22 t294.length co22) : Value).ownBlock ∧ some k_ ≠ ((.slice Ao25 t300.length co25) : Value).ownBlock ∧ some k_ ≠ ((.slice Ao26 t303.length co26) : Value).ownBlock ∧ some k_ ≠ ((.slice Ao36 t314.length co36) : Value).ownBlock ∧ some k_ ≠ ((.slice Ao37 t317.length co37) : Value).ownBlock ∧ some k_ ≠ ((.slice Ao42 t323.length co42) : Value).ownBlock ∧ some k_ ≠ ((.slice Ao43 t326.length co43) : Value).ownBlock ∧ some k_ ≠ ((.slice Ao57 t338.length co57) : Value).ownBlock ∧ some k_ ≠ ((.slice Ao64 t344.length co64) : Value).ownBlock ∧ some k_ ≠ ((.slice Ao65 t347.length co65) : Value).ownBlock) (.slice Ao56 t335.length co56) t335) ∧ Aside0 (Kd.R (Kd.int .i64) 3 w' w.heap.size (fun k_ => some k_ ≠ ((.slice Ao135 y371.length co135) : Value).ownBlock ∧ some k_ ≠ ((.slice Ao21 t291.length co21) : Value).ownBlock ∧ some k_ ≠ ((.slice Ao22 t294.length co22) : Value).ownBlock ∧ some k_ ≠ ((.slice Ao25 t300.length co25) : Value).ownBlock ∧ some k_ ≠ ((.slice Ao26 t303.length co26) : Value).ownBlock ∧ some k_ ≠ ((.slice Ao36 t314.length co36) : Value).ownBlock ∧ some k_ ≠ ((.slice Ao37 t317.length co37) : Value).ownBlock ∧ some k_ ≠ ((.slice Ao42 t323.length co42) : Value).ownBlock ∧ some k_ ≠ ((.slice Ao43 t326.length co43) : Value).ownBlock ∧ some k_ ≠ ((.slice Ao56 t335.length co56) : Value).ownBlock ∧ some k_ ≠ ((.slice Ao64 t344.length co64) : Value).ownBlock ∧ some k_ ≠ ((.slice Ao65 t347.length co65) : Value).ownBlock) (.slice Ao57 t338.length co57) t338) ∧ Aside0 (Kd.R (Kd.int .i64) 3 w' w.heap.size (fun k_ => some k_ ≠ ((.slice Ao135 y371.length co135) : Value).ownBlock ∧ some k_ ≠ ((.slice Ao21 t291.length co21) : Value).ownBlock ∧ some k_ ≠ ((.slice Ao22 t294.length co22) : Value).ownBlock ∧ some k_ ≠ ((.slice Ao25 t300.length co25) : Value).ownBlock ∧ some k_ ≠ ((.slice Ao26 t303.length co26) : Value).ownBlock ∧ some k_ ≠ ((.slice Ao36 t314.length co36) : Value).ownBlock ∧ some k_ ≠ ((.slice Ao37 t317.length co37) : Value).ownBlock ∧ some k_ ≠ ((.slice Ao42 t323.length co42) : Value).ownBlock ∧ some k_ ≠ ((.slice Ao43 t326.length co43) : Value).ownBlock ∧ some k_ ≠ ((.slice Ao56 t335.length co56) : Value).ownBlock ∧ some k_ ≠ ((.slice Ao57 t338.length co57) : Value).ownBlock ∧ some k_ ≠ ((.slice Ao65 t347.length co65) : Value).ownBlock) (.slice Ao64 t344.length co64) t344) ∧ Aside0 (Kd.R (Kd.int .i64) 3 w' w.heap.size (fun k_ => some k_ ≠ ((.slice Ao135 y371.length co135) : Value).ownBlock ∧ some k_ ≠ ((.slice Ao21 t291.length co21) : Value).ownBlock ∧ some k_ ≠ ((.slice Ao22 t294.length co22) : Value).ownBlock ∧ some k_ ≠ ((.slice Ao25 t300.length co25) : Value).ownBlock ∧ some k_ ≠ ((.slice Ao26 t303.length co26) : Value).ownBlock ∧ some k_ ≠ ((.slice Ao36 t314.length co36) : Value).ownBlock ∧ some k_ ≠ ((.slice Ao37 t317.length co37) : Value).ownBlock ∧ some k_ ≠ ((.slice Ao42 t323.length co42) : Value).ownBlock ∧ some k_ ≠ ((.slice Ao43 t326.length co43) : Value).ownBlock ∧ some k_ ≠ ((.slice Ao56 t335.length co56) : Value).ownBlock ∧ some k_ ≠ ((.slice Ao57 t338.length co57) : Value).ownBlock ∧ some k_ ≠ ((.slice Ao64 t344.length co64) : Value).ownBlock) (.slice Ao65 t347.length co65) t347) ∧ Aside0 (w'.heap[gb285]? = some (.cells #[(.slice A0_0 l0_0.length c0_0), (.slice A0_1 l0_1.length c0_1)] 25 (0, 0))) ∧ Aside0 (w'.heap[gb307]? = some (.cells #[.int .i64 t288, .int .i64 t289, .int .i64 t290, (.slice Ao21 t291.length co21), (.slice Ao22 t294.length co22)] 30 (0, 0))) ∧ Aside0 (w'.heap[gb308]? = some (.cells #[.int .i64 t297, .int .i64 t298, .int .i64 t299, (.slice Ao25 t300.length co25), (.slice Ao26 t303.length co26)] 30 (0, 0))) ∧ Aside0 (w'.heap[gb330]? = some (.cells #[.int .i64 t311, .int .i64 t312, .int .i64 t313, (.slice Ao36 t314.length co36), (.slice Ao37 t317.length co37)] 30 (0, 0))) ∧ Aside0 (w'.heap[gb331]? = some (.cells #[.int .i64 t320, .int .i64 t321, .int .i64 t322, (.slice Ao42 t323.length co42), (.slice Ao43 t326.length co43)] 30 (0, 0))) ∧ Aside0 (w'.heap[gb351]? = some (.cells #[.int .i64 t332, .int .i64 t333, .int .i64 t334, (.slice Ao56 t335.length co56), (.slice Ao57 t338.length co57)] 30 (0, 0))) ∧ Aside0 (w'.heap[gb352]? = some (.cells #[.int .i64 t341, .int .i64 t342, .int .i64 t343, (.slice Ao64 t344.length co64), (.slice Ao65 t347.length co65)] 30 (0, 0))) ∧ Aside0 (Below w.heap.size w w'))
           case atStart => exact ⟨(0), sm_, H', ⟨Nat.le_refl _⟩, ⟨rs_ HO373.out⟩, ⟨rs_ HO_308003.out⟩, ⟨rs_ HO_308004.out⟩, ⟨rs_ HO_309003.out⟩, ⟨rs_ HO_309004.out⟩, ⟨rs_ HO_331003.out⟩, ⟨rs_ HO_331004.out⟩, ⟨rs_ HO_332003.out⟩, ⟨rs_ HO_332004.out⟩, ⟨rs_ HO_352003.out⟩, ⟨rs_ HO_352004.out⟩, ⟨rs_ HO_353003.out⟩, ⟨rs_ HO_353004.out⟩, ⟨bq_ BK285.out⟩, ⟨bq_ BK307.out⟩, ⟨bq_ BK308.out⟩, ⟨bq_ BK330.out⟩, ⟨bq_ BK331.out⟩, ⟨bq_ BK351.out⟩, ⟨bq_ BK352.out⟩, ⟨bl_⟩⟩
           case round =>
            clear H'
            try clear c118; try clear c119; try clear c120; try clear c121; try clear c122
            obtain ⟨x109_2, rfl, HA, HK2, HO_107, HO_308003, HO_308004, HO_309003, HO_309004, HO_331003, HO_331004, HO_332003, HO_332004, HO_352003, HO_352004, HO_353003, HO_353004, BK285, BK307, BK308, BK330, BK331, BK351, BK352, HB⟩ := hrel
            cases gk with
            | zero => exact absurd HA.out (by simp [paymasterlaw14_WithholdNone.l0])
            | succ k2 =>
             have H := HA.out
             clear HA
             simp only [paymasterlaw14_WithholdNone.l0] at H
             by_cases c136 : x109_2 < (y371.length : Int)
             ·rw [if_pos c136] at H
              have c136b0 : decide (x109_2 < (y371.length : Int)) = true := decide_eq_true c136
              clear c136
              by_cases c137 : 0 ≤ x109_2
              ·rw [if_pos c137] at H
               have c137b0 : decide (0 ≤ x109_2) = true := decide_eq_true c137
               clear c137
               by_cases c138 : x109_2 < (y371.length : Int)
               ·rw [if_pos c138] at H
                have c138b0 : decide (x109_2 < (y371.length : Int)) = true := decide_eq_true c138
                clear c138
                by_cases c139 : (rd y371 x109_2) = 0
                ·rw [if_pos c139] at H
                 have c139b0 : ((rd y371 x109_2) == 0) = true := beq_iff_eq.mpr c139
                 have c139b1 : ((rd y371 x109_2) != 0) = false := bne_eq_false_iff_eq.mpr c139
                 clear c139
                 have H' := Aside0.mk H
                 clear H
                 have p374 : 0 ≤ (x109_2 : Int) := od_
                 have q374 : x109_2 < (y371.length : Int) := od_
                 obtain ⟨ad374, e374, hx374_0⟩ := Kd.at_int (Kd.R_reads' HO_107.out).2.2 x109_2 p374 q374
                 cases e374
                 replace p374 := eq_true p374
                 replace q374 := eq_true q374
                 go_wp2
                 go_roundg k2
                 case measure => have := HJ9.out; have := HK2.out; omega
                 case rel => exact ⟨(wrap64 (x109_2 + 1)), sm_, H', ⟨by have := HJ9.out; have := HK2.out; omega⟩, ⟨rs_ HO_107.out⟩, ⟨rs_ HO_308003.out⟩, ⟨rs_ HO_308004.out⟩, ⟨rs_ HO_309003.out⟩, ⟨rs_ HO_309004.out⟩, ⟨rs_ HO_331003.out⟩, ⟨rs_ HO_331004.out⟩, ⟨rs_ HO_332003.out⟩, ⟨rs_ HO_332004.out⟩, ⟨rs_ HO_352003.out⟩, ⟨rs_ HO_352004.out⟩, ⟨rs_ HO_353003.out⟩, ⟨rs_ HO_353004.out⟩, ⟨bq_ BK285.out⟩, ⟨bq_ BK307.out⟩, ⟨bq_ BK308.out⟩, ⟨bq_ BK330.out⟩, ⟨bq_ BK331.out⟩, ⟨bq_ BK351.out⟩, ⟨bq_ BK352.out⟩, ⟨bl_⟩⟩
                ·rw [if_neg c139] at H
                 exact absurd H (by simp)
               ·rw [if_neg c138] at H
                exact absurd H (by simp)
              ·rw [if_neg c137] at H
               exact absurd H (by simp)
             ·rw [if_neg c136] at H
              have c136b0 : decide (x109_2 < (y371.length : Int)) = false := decide_eq_false c136
              clear c136
              replace H := Option.bind_eq_some_iff.mp H
              obtain ⟨t375, A1400, H⟩ := H
              (try dsimp only at H)
              have A140 := Aside0.mk A1400
              clear A1400
              by_cases c141 : t375 = true
              ·subst c141
               rw [if_pos rfl] at H
               replace H := Option.bind_eq_some_iff.mp H
               obtain ⟨t376, A1420, H⟩ := H
               (try dsimp only at H)
               have A142 := Aside0.mk A1420
               clear A1420
               obtain rfl := Option.some.inj H
               have hnb143 := NB307_285.out
               have hnc143 := NB285_307.out
               have hnb144 := NB307_308.out
               have hnc144 := NB308_307.out
               have hnb145 := NB307_330.out
               have hnc145 := NB330_307.out
               have hnb146 := NB307_331.out
               have hnc146 := NB331_307.out
               have hnb147 := NB307_351.out
               have hnc147 := NB351_307.out
               have hnb148 := NB307_352.out
               have hnc148 := NB352_307.out
               obtain ⟨hcz149_0, hcz149_1, hcz149_2, hcz149_3, hcz149_4, hfz149_0, hfz149_1, hfz149_2, hfz149_3, hfz149_4⟩ := c5_ BK307.out
               have hnb150 := NB330_285.out
               have hnc150 := NB285_330.out
               have hnb151 := NB330_308.out
               have hnc151 := NB308_330.out
               have hnb152 := NB330_331.out
               have hnc152 := NB331_330.out
               have hnb153 := NB330_351.out
               have hnc153 := NB351_330.out
               have hnb154 := NB330_352.out
               have hnc154 := NB352_330.out
               obtain ⟨hcz155_0, hcz155_1, hcz155_2, hcz155_3, hcz155_4, hfz155_0, hfz155_1, hfz155_2, hfz155_3, hfz155_4⟩ := c5_ BK330.out
               go_wp2_with (first | ((with_reducible refine gate_callee (f := 13) rfl ?_); refine goesL_ (some 118) rfl rfl Try.func13 (by kernel_rfl) rfl #[.agg #[.int .i64 t288, .int .i64 t289, .int .i64 t290, .slice Ao21 t291.length co21, .slice Ao22 t294.length co22], .agg #[.int .i64 t311, .int .i64 t312, .int .i64 t313, .slice Ao36 t314.length co36, .slice Ao37 t317.length co37]] rfl ga_ ?_; (with_reducible refine (paymasterref14_Same.calls k2 t288 t289 t290 _ _ t291 _ _ t294 t311 t312 t313 _ _ t314 _ _ t317 true _ ?side1 ?side2 ?side3 ?side4 ?side5 ?side6 ?side7 ?side8 A140.out).mono ?_); (case side1 => exact kc_ (Kd.R_reads' HO_308003.out).2.2); (case side2 => exact (Kd.R_reads' HO_308003.out).2.1); (case side3 => exact kc_ (Kd.R_reads' HO_308004.out).2.2); (case side4 => exact (Kd.R_reads' HO_308004.out).2.1); (case side5 => exact kc_ (Kd.R_reads' HO_331003.out).2.2); (case side6 => exact (Kd.R_reads' HO_331003.out).2.1); (case side7 => exact kc_ (Kd.R_reads' HO_331004.out).2.2); (case side8 => exact (Kd.R_reads' HO_331004.out).2.1); rintro e w156 ⟨rfl, hb⟩; refine ⟨_, rfl, ?_⟩; replace HO_107 := rl_ HO_107.out hb; replace HO_308003 := rl_ HO_308003.out hb; replace HO_308004 := rl_ HO_308004.out hb; replace HO_309003 := rl_ HO_309003.out hb; replace HO_309004 := rl_ HO_309004.out hb; replace HO_331003 := rl_ HO_331003.out hb; replace HO_331004 := rl_ HO_331004.out hb; replace HO_332003 := rl_ HO_332003.out hb; replace HO_332004 := rl_ HO_332004.out hb; replace HO_352003 := rl_ HO_352003.out hb; replace HO_352004 := rl_ HO_352004.out hb; replace HO_353003 := rl_ HO_353003.out hb; replace HO_353004 := rl_ HO_353004.out hb; replace BK285 := bb_ BK285.out hb; replace BK307 := bb_ BK307.out hb; replace BK308 := bb_ BK308.out hb; replace BK330 := bb_ BK330.out hb; replace BK331 := bb_ BK331.out hb; replace BK351 := bb_ BK351.out hb; replace BK352 := bb_ BK352.out hb; replace HB := hs_ hb; (try clear hb); (try clear hb2); (try clear hk); (try clear hi)) | (go_at_call 10; (with_reducible refine (paymasterlaw14_awake.calls k2  t376 _ A142.out).mono ?_); rintro e w157 ⟨rfl, hb⟩; replace HO_107 := rl_ HO_107.out hb; replace HO_308003 := rl_ HO_308003.out hb; replace HO_308004 := rl_ HO_308004.out hb; replace HO_309003 := rl_ HO_309003.out hb; replace HO_309004 := rl_ HO_309004.out hb; replace HO_331003 := rl_ HO_331003.out hb; replace HO_331004 := rl_ HO_331004.out hb; replace HO_332003 := rl_ HO_332003.out hb; replace HO_332004 := rl_ HO_332004.out hb; replace HO_352003 := rl_ HO_352003.out hb; replace HO_352004 := rl_ HO_352004.out hb; replace HO_353003 := rl_ HO_353003.out hb; replace HO_353004 := rl_ HO_353004.out hb; replace BK285 := bb_ BK285.out hb; replace BK307 := bb_ BK307.out hb; replace BK308 := bb_ BK308.out hb; replace BK330 := bb_ BK330.out hb; replace BK331 := bb_ BK331.out hb; replace BK351 := bb_ BK351.out hb; replace BK352 := bb_ BK352.out hb; replace HB := hs_ hb; (try clear hb); (try clear hb2); (try clear hk); (try clear hi)))
               go_ret
               exact ⟨se_, bl_⟩
              ·replace c141 := Bool.eq_false_iff.mpr c141
               subst c141
               rw [if_neg (show ¬ (false = true) by decide)] at H
               exact absurd H (by simp)
          ·rw [if_neg c122] at H
           exact absurd H (by simp)
         ·rw [if_neg c121] at H
          exact absurd H (by simp)
        ·rw [if_neg c120] at H
         exact absurd H (by simp)
       ·rw [if_neg c119] at H
        exact absurd H (by simp)
      ·rw [if_neg c118] at H
       exact absurd H (by simp)
  ·rw [if_neg c7] at H
   have c7b0 : (t306 == 0) = false := beq_eq_false_iff_ne.mpr c7
   have c7b1 : (t306 != 0) = true := bne_iff_ne.mpr c7
   by_cases c158 : t306 = 1
   ·rw [if_pos c158] at H
    have c158b0 : (t306 == 1) = true := beq_iff_eq.mpr c158
    have c158b1 : (t306 != 1) = false := bne_eq_false_iff_eq.mpr c158
    clear c158
    replace H := Option.bind_eq_some_iff.mp H
    obtain ⟨t309, A1590, H⟩ := H
    (try dsimp only at H)
    have A159 := Aside0.mk A1590
    clear A1590
    by_cases c160 : t309 = true
    ·subst c160
     rw [if_pos rfl] at H
     exact absurd H (by simp)
    ·replace c160 := Bool.eq_false_iff.mpr c160
     subst c160
     rw [if_neg (show ¬ (false = true) by decide)] at H
     replace H := Option.bind_eq_some_iff.mp H
     obtain ⟨t310, A1610, H⟩ := H
     (try dsimp only at H)
     have A161 := Aside0.mk A1610
     clear A1610
     obtain rfl := Option.some.inj H
     go_enter Try.func3, Try.ntmps3
     go_wp2_with (first | ((with_reducible refine gate_dst (N := 3) rfl ?_); refine bx_ 3 #[.slice A0_0 l0_0.length c0_0, .slice A0_1 l0_1.length c0_1] 25 ?_; intro gb285 hg w162 hbox hb; have BK285 := Aside0.mk hbox; have GW285 := gs_ hg; have GE285 := gs_ hg; replace HB := hs_ hb; clear hb hbox hg; obtain ⟨hcz163_0, hcz163_1, hfz163_0, hfz163_1⟩ := c2_ BK285.out) | ((with_reducible refine gate_callee (f := 9) rfl ?_); refine goesL_ (some 25) rfl rfl Try.func9 (by kernel_rfl) rfl #[.agg #[.slice A0_0 l0_0.length c0_0, .slice A0_1 l0_1.length c0_1]] rfl ga_ ?_; (with_reducible refine (paymasterlaw14_small.calls _ _ l0_0 _ _ l0_1 true _ ?side1 ?side2 ?side3 ?side4 A4.out).mono ?_); (case side1 => exact kc_ (Kd.C_below HR0_0.out HB.out)); (case side2 => exact HC0_0.out); (case side3 => exact kc_ (Kd.C_below HR0_1.out HB.out)); (case side4 => exact HC0_1.out); rintro e w164 ⟨rfl, hb⟩; refine ⟨_, rfl, ?_⟩; replace BK285 := bb_ BK285.out hb; replace HB := hs_ hb; (try clear hb); (try clear hb2); (try clear hk); (try clear hi); obtain ⟨hcz165_0, hcz165_1, hfz165_0, hfz165_1⟩ := c2_ BK285.out) | ((with_reducible refine gate_callee (f := 11) rfl ?_); refine goesL_ (some 33) rfl rfl Try.func11 (by kernel_rfl) rfl #[.agg #[.slice A0_0 l0_0.length c0_0, .slice A0_1 l0_1.length c0_1], .agg #[.int .i64 0, .int .i64 0, .int .i64 0, .slice none 0 0, .slice none 0 0], .int .i64 (Int.tmod a1 1099511627776), .int .i64 (Int.tmod a2 1099511627776)] rfl ga_ ?_; (refine (withhold_Step.calls k _ _ l0_0 _ _ l0_1 0 0 0 _ _ ([] : List Int) _ _ ([] : List Int) (Int.tmod a1 1099511627776) (Int.tmod a2 1099511627776) t288 t289 t290 t291 t294 t297 t298 t299 t300 t303 t306 _ ?side1 ?side2 ?side3 ?side4 ?side5 ?side6 ?side7 ?side8 A6.out).mono ?_); (case side1 => exact kc_ (Kd.C_below HR0_0.out HB.out)); (case side2 => exact HC0_0.out); (case side3 => exact kc_ (Kd.C_below HR0_1.out HB.out)); (case side4 => exact HC0_1.out); (case side5 => exact Kd.C_nil _ _); (case side6 => exact Nat.le_refl _); (case side7 => exact Kd.C_nil _ _); (case side8 => exact Nat.le_refl _); rintro e w166 ⟨v292, v295, v301, v304, rfl, ho0, ho1, ho2, ho3, hb⟩; refine ⟨_, rfl, ?_⟩; have HO293 := rl0_ ho0; have HO296 := rl0_ ho1; have HO302 := rl0_ ho2; have HO305 := rl0_ ho3; replace BK285 := bb_ BK285.out hb; replace HB := hs_ hb; (try clear hb); (try clear hb2); (try clear hk); (try clear hi); (try clear ho0); (try clear ho1); (try clear ho2); (try clear ho3)) | ((with_reducible refine gate_dst (N := 9) rfl ?_); refine bx_ 9 #[.int .i64 0, .int .i64 0, .int .i64 0, .slice none 0 0, .slice none 0 0] 30 ?_; intro gb307 hg w167 hbox hb; have BK307 := Aside0.mk hbox; have GW307 := gs_ hg; have GE307 := gs_ hg; have NB285_307 := nl_ hg BK285.out; have NB307_285 := ng_ hg BK285.out; replace HO293 := rl_ HO293.out hb; replace HO296 := rl_ HO296.out hb; replace HO302 := rl_ HO302.out hb; replace HO305 := rl_ HO305.out hb; replace BK285 := bb_ BK285.out hb; replace HB := hs_ hb; clear hb hbox hg) | ((with_reducible refine gate_dst (N := 10) rfl ?_); refine bx_ 10 #[.int .i64 0, .int .i64 0, .int .i64 0, .slice none 0 0, .slice none 0 0] 30 ?_; intro gb308 hg w168 hbox hb; have BK308 := Aside0.mk hbox; have GW308 := gs_ hg; have GE308 := gs_ hg; have NB285_308 := nl_ hg BK285.out; have NB308_285 := ng_ hg BK285.out; have NB307_308 := nl_ hg BK307.out; have NB308_307 := ng_ hg BK307.out; replace HO293 := rl_ HO293.out hb; replace HO296 := rl_ HO296.out hb; replace HO302 := rl_ HO302.out hb; replace HO305 := rl_ HO305.out hb; replace BK285 := bb_ BK285.out hb; replace BK307 := bb_ BK307.out hb; replace HB := hs_ hb; clear hb hbox hg; have hnb169 := NB307_285.out; have hnc169 := NB285_307.out; have hnb170 := NB307_308.out; have hnc170 := NB308_307.out; obtain ⟨hcz171_0, hcz171_1, hcz171_2, hcz171_3, hcz171_4, hfz171_0, hfz171_1, hfz171_2, hfz171_3, hfz171_4⟩ := c5_ BK307.out; obtain ⟨Ao172, co172, eo172⟩ := Kd.R_slice HO293.out; subst eo172; obtain ⟨Ao173, co173, eo173⟩ := Kd.R_slice HO296.out; subst eo173; have hnb174 := NB308_285.out; have hnc174 := NB285_308.out; obtain ⟨hcz175_0, hcz175_1, hcz175_2, hcz175_3, hcz175_4, hfz175_0, hfz175_1, hfz175_2, hfz175_3, hfz175_4⟩ := c5_ BK308.out; obtain ⟨Ao176, co176, eo176⟩ := Kd.R_slice HO302.out; subst eo176; obtain ⟨Ao177, co177, eo177⟩ := Kd.R_slice HO305.out; subst eo177; obtain ⟨hcz178_0, hcz178_1, hfz178_0, hfz178_1⟩ := c2_ BK285.out) | (go_at_call 12; (with_reducible refine (withhold_Right.calls k _ _ l0_0 _ _ l0_1 false _ ?side1 ?side2 ?side3 ?side4 A159.out).mono ?_); (case side1 => exact Kd.C_below HR0_0.out bl_); (case side2 => exact HC0_0.out); (case side3 => exact Kd.C_below HR0_1.out bl_); (case side4 => exact HC0_1.out); rintro e w179 ⟨rfl, hb⟩; replace HO293 := rb2_ (ty_ (ty_ HO293.out BK307.out) BK308.out) hb; replace HO296 := rb2_ (ty_ (ty_ HO296.out BK307.out) BK308.out) hb; replace HO302 := rb2_ (ty_ (ty_ HO302.out BK307.out) BK308.out) hb; replace HO305 := rb2_ (ty_ (ty_ HO305.out BK307.out) BK308.out) hb; replace BK285 := bb_ BK285.out hb; replace BK307 := Aside0.mk (blk_below (g := gb307) (o := .cells #[.int .i64 t288, .int .i64 t289, .int .i64 t290, .slice Ao172 t291.length co172, .slice Ao173 t294.length co173] 30 (0, 0)) (bp_ BK307.out) hb); replace BK308 := Aside0.mk (blk_below (g := gb308) (o := .cells #[.int .i64 t297, .int .i64 t298, .int .i64 t299, .slice Ao176 t300.length co176, .slice Ao177 t303.length co177] 30 (0, 0)) (bp_ BK308.out) hb); replace HB := hs_ hb; (try clear hb); (try clear hb2); (try clear hk); (try clear hi)) | (go_at_call 10; (with_reducible refine (paymasterlaw14_awake.calls k  t310 _ A161.out).mono ?_); rintro e w180 ⟨rfl, hb⟩; replace HO293 := rl_ HO293.out hb; replace HO296 := rl_ HO296.out hb; replace HO302 := rl_ HO302.out hb; replace HO305 := rl_ HO305.out hb; replace BK285 := bb_ BK285.out hb; replace BK307 := bb_ BK307.out hb; replace BK308 := bb_ BK308.out hb; replace HB := hs_ hb; (try clear hb); (try clear hb2); (try clear hk); (try clear hi)))
     go_ret
     exact ⟨se_, bl_⟩
   ·rw [if_neg c158] at H
    exact absurd H (by simp)
 ·replace c5 := Bool.eq_false_iff.mpr c5
  subst c5
  rw [if_neg (show ¬ (false = true) by decide)] at H
  replace H := Option.bind_eq_some_iff.mp H
  obtain ⟨t287, A1810, H⟩ := H
  (try dsimp only at H)
  have A181 := Aside0.mk A1810
  clear A1810
  obtain rfl := Option.some.inj H
  go_enter Try.func3, Try.ntmps3
  go_wp2_with (first | ((with_reducible refine gate_dst (N := 3) rfl ?_); refine bx_ 3 #[.slice A0_0 l0_0.length c0_0, .slice A0_1 l0_1.length c0_1] 25 ?_; intro gb285 hg w182 hbox hb; have BK285 := Aside0.mk hbox; have GW285 := gs_ hg; have GE285 := gs_ hg; replace HB := hs_ hb; clear hb hbox hg; obtain ⟨hcz183_0, hcz183_1, hfz183_0, hfz183_1⟩ := c2_ BK285.out) | ((with_reducible refine gate_callee (f := 9) rfl ?_); refine goesL_ (some 25) rfl rfl Try.func9 (by kernel_rfl) rfl #[.agg #[.slice A0_0 l0_0.length c0_0, .slice A0_1 l0_1.length c0_1]] rfl ga_ ?_; (with_reducible refine (paymasterlaw14_small.calls _ _ l0_0 _ _ l0_1 false _ ?side1 ?side2 ?side3 ?side4 A4.out).mono ?_); (case side1 => exact kc_ (Kd.C_below HR0_0.out HB.out)); (case side2 => exact HC0_0.out); (case side3 => exact kc_ (Kd.C_below HR0_1.out HB.out)); (case side4 => exact HC0_1.out); rintro e w184 ⟨rfl, hb⟩; refine ⟨_, rfl, ?_⟩; replace BK285 := bb_ BK285.out hb; replace HB := hs_ hb; (try clear hb); (try clear hb2); (try clear hk); (try clear hi)) | ((with_reducible refine gate_callee (f := 10) rfl ?_); refine goesL_ (some 27) rfl rfl Try.func10 (by kernel_rfl) rfl #[] rfl ga_ ?_; (with_reducible refine (paymasterlaw14_awake.calls k  t287 _ A181.out).mono ?_); rintro e w185 ⟨rfl, hb⟩; refine ⟨_, rfl, ?_⟩; replace BK285 := bb_ BK285.out hb; replace HB := hs_ hb; (try clear hb); (try clear hb2); (try clear hk); (try clear hi)))
  go_ret
  exact ⟨se_, bl_⟩

end Go.Proofs.Ytocaneaofdbpoaa.PA
