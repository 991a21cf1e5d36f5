/- Contracts of the functions of the given program: written by wip/pmprint.py, a program of this session, which runs the print of the kit over altered functions. -/
import Derived.Test.YtocaneaofdbpoaaPAx0
import Derived.Test.YtocaneaofdbpoaaPAx1
import Derived.Test.YtocaneaofdbpoaaPAx7
import Derived.Test.YtocaneaofdbpoaaPAx8
import Derived.Test.YtocaneaofdbpoaaPAx10
import Derived.Test.YtocaneaofdbpoaaPAx11
import Derived.Test.YtocaneaofdbpoaaPAx17
import Derived.Test.YtocaneaofdbpoaaPAx20
namespace Go.Proofs.Ytocaneaofdbpoaa.PA
open Go.RowKit Go.Proofs.YtocaneaofdbpoaaW.PrintWords Go.Proofs.YtocaneaofdbpoaaW.PrintLast Go.Proofs.YtocaneaofdbpoaaW.PrintMore
attribute [local go_sem] max2_int min2_int max_two min_two max_three min_three max_four min_four   -- for this text's walks alone
set_option linter.unusedVariables false
set_option linter.unusedSimpArgs false

/-! ### paymasterlaw14_WithholdStep: function 6 -/
mutual
def paymasterlaw14_WithholdStep.j0 : Nat → Int → Int → Bool → List (S58) → List (S41) → Int → Int → Int → List Int → List Int → Option (Bool)
  | 0, _, _, _, _, _, _, _, _, _, _ => none
  | k + 1, x2, x3, x33, x550000, x550001, x551000, x551001, x551002, x551003, x551004 => if x33 = true then ((paymasterlaw14_awake.f k).bind fun t552 => (some t552)) else ((some (([x551002] : List Int) : List Int)).bind fun y553 => (if y553.length + x551003.length < 17592186044416 then ((some (y553 ++ x551003 : List Int)).bind fun y556 => (if y556.length + x551004.length < 17592186044416 then ((some (y556 ++ x551004 : List Int)).bind fun y559 => (paymasterlaw14_WithholdStep.l0 k x2 x3 y559 (y559.length : Int) 0 x550000 x550001 x551000 x551001 x551002 x551003 x551004)) else (none))) else (none)))
def paymasterlaw14_WithholdStep.l0 : Nat → Int → Int → List Int → Int → Int → List (S58) → List (S41) → Int → Int → Int → List Int → List Int → Option (Bool)
  | 0, _, _, _, _, _, _, _, _, _, _, _, _ => none
  | k + 1, x2, x3, x43, x44, x45, x550000, x550001, x551000, x551001, x551002, x551003, x551004 => if x45 < x44 then (if 0 ≤ x45 then (if x45 < (x43.length : Int) then (if (rd x43 x45) > 1152921504606846976 then ((paymasterlaw14_awake.f k).bind fun t563 => (some t563)) else (if (rd x43 x45) < (-1152921504606846976) then ((paymasterlaw14_awake.f k).bind fun t564 => (some t564)) else (paymasterlaw14_WithholdStep.l0 k x2 x3 x43 x44 (wrap64 (x45 + 1)) x550000 x550001 x551000 x551001 x551002 x551003 x551004))) else (none)) else (none)) else ((withhold_Step.f k x550000 x550001 x551000 x551001 x551002 x551003 x551004 x2 x3).bind fun bt565 => ((paymasterlaw14_ref.f k x550000 x550001).bind fun bt586 => ((paymasterref14_Right.f k bt586.1 bt586.2).bind fun t592 => (if t592 = true then ((paymasterref14_Far.f x551000).bind fun t593 => (if t593 = true then (paymasterlaw14_WithholdStep.j2 k x2 x3 bt565.2.2.2.2.2.2.2.2.2.2 0 (x550001.length : Int) true x550000 x550001 x551000 x551001 x551002 x551003 x551004 bt565.1 bt565.2.1 bt565.2.2.1 bt565.2.2.2.1 bt565.2.2.2.2.1 bt565.2.2.2.2.2.1 bt565.2.2.2.2.2.2.1 bt565.2.2.2.2.2.2.2.1 bt565.2.2.2.2.2.2.2.2.1 bt565.2.2.2.2.2.2.2.2.2.1) else ((paymasterref14_Far.f x2).bind fun t594 => (if t594 = true then (paymasterlaw14_WithholdStep.j2 k x2 x3 bt565.2.2.2.2.2.2.2.2.2.2 0 (x550001.length : Int) true x550000 x550001 x551000 x551001 x551002 x551003 x551004 bt565.1 bt565.2.1 bt565.2.2.1 bt565.2.2.2.1 bt565.2.2.2.2.1 bt565.2.2.2.2.2.1 bt565.2.2.2.2.2.2.1 bt565.2.2.2.2.2.2.2.1 bt565.2.2.2.2.2.2.2.2.1 bt565.2.2.2.2.2.2.2.2.2.1) else ((paymasterref14_Far.f x551001).bind fun t595 => (if t595 = true then (paymasterlaw14_WithholdStep.j2 k x2 x3 bt565.2.2.2.2.2.2.2.2.2.2 0 (x550001.length : Int) true x550000 x550001 x551000 x551001 x551002 x551003 x551004 bt565.1 bt565.2.1 bt565.2.2.1 bt565.2.2.2.1 bt565.2.2.2.2.1 bt565.2.2.2.2.2.1 bt565.2.2.2.2.2.2.1 bt565.2.2.2.2.2.2.2.1 bt565.2.2.2.2.2.2.2.2.1 bt565.2.2.2.2.2.2.2.2.2.1) else ((paymasterref14_Far.f x3).bind fun t596 => (if t596 = true then (paymasterlaw14_WithholdStep.j2 k x2 x3 bt565.2.2.2.2.2.2.2.2.2.2 0 (x550001.length : Int) true x550000 x550001 x551000 x551001 x551002 x551003 x551004 bt565.1 bt565.2.1 bt565.2.2.1 bt565.2.2.2.1 bt565.2.2.2.2.1 bt565.2.2.2.2.2.1 bt565.2.2.2.2.2.2.1 bt565.2.2.2.2.2.2.2.1 bt565.2.2.2.2.2.2.2.2.1 bt565.2.2.2.2.2.2.2.2.2.1) else ((paymasterref14_Far.f (wrap64 (x551000 + x2))).bind fun t597 => (if t597 = true then (paymasterlaw14_WithholdStep.j2 k x2 x3 bt565.2.2.2.2.2.2.2.2.2.2 0 (x550001.length : Int) true x550000 x550001 x551000 x551001 x551002 x551003 x551004 bt565.1 bt565.2.1 bt565.2.2.1 bt565.2.2.2.1 bt565.2.2.2.2.1 bt565.2.2.2.2.2.1 bt565.2.2.2.2.2.2.1 bt565.2.2.2.2.2.2.2.1 bt565.2.2.2.2.2.2.2.2.1 bt565.2.2.2.2.2.2.2.2.2.1) else ((paymasterref14_Far.f (wrap64 (x551001 + x3))).bind fun t598 => (paymasterlaw14_WithholdStep.j2 k x2 x3 bt565.2.2.2.2.2.2.2.2.2.2 0 (x550001.length : Int) t598 x550000 x550001 x551000 x551001 x551002 x551003 x551004 bt565.1 bt565.2.1 bt565.2.2.1 bt565.2.2.2.1 bt565.2.2.2.2.1 bt565.2.2.2.2.2.1 bt565.2.2.2.2.2.2.1 bt565.2.2.2.2.2.2.2.1 bt565.2.2.2.2.2.2.2.2.1 bt565.2.2.2.2.2.2.2.2.2.1)))))))))))) else (paymasterlaw14_WithholdStep.j3 k x2 x3 bt565.2.2.2.2.2.2.2.2.2.2 1 x550000 x550001 x551000 x551001 x551002 x551003 x551004 bt565.1 bt565.2.1 bt565.2.2.1 bt565.2.2.2.1 bt565.2.2.2.2.1 bt565.2.2.2.2.2.1 bt565.2.2.2.2.2.2.1 bt565.2.2.2.2.2.2.2.1 bt565.2.2.2.2.2.2.2.2.1 bt565.2.2.2.2.2.2.2.2.2.1)))))
def paymasterlaw14_WithholdStep.j3 : Nat → Int → Int → Int → Int → List (S58) → List (S41) → Int → Int → Int → List Int → List Int → Int → Int → Int → List Int → List Int → Int → Int → Int → List Int → List Int → Option (Bool)
  | 0, _, _, _, _, _, _, _, _, _, _, _, _, _, _, _, _, _, _, _, _, _ => none
  | k + 1, x2, x3, x13, x14, x550000, x550001, x551000, x551001, x551002, x551003, x551004, x585000, x585001, x585002, x585003, x585004, x586000, x586001, x586002, x586003, x586004 => if x14 = 0 then ((paymasterlaw14_ref.f k x550000 x550001).bind fun bt604 => ((paymasterref14_Due.f k bt604.1 bt604.2 (wrap64 (x551000 + x2)) (wrap64 (x551001 + x3))).bind fun bt610 => ((paymasterref14_Same.f k x585000 x585001 x585002 x585003 x585004 bt610.1 bt610.2.1 bt610.2.2.1 bt610.2.2.2.1 bt610.2.2.2.2).bind fun t620 => (if t620 = true then ((paymasterref14_Less.f k bt610.1 bt610.2.1 bt610.2.2.1 bt610.2.2.2.1 bt610.2.2.2.2 x551000 x551001 x551002 x551003 x551004).bind fun bt621 => ((paymasterref14_Same.f k x586000 x586001 x586002 x586003 x586004 bt621.1 bt621.2.1 bt621.2.2.1 bt621.2.2.2.1 bt621.2.2.2.2).bind fun t630 => (if t630 = true then (if x13 = x14 then ((paymasterlaw14_awake.f k).bind fun t631 => (some t631)) else (none)) else (none)))) else (none))))) else ((paymasterref14_Same.f k x585000 x585001 x585002 x585003 x585004 0 0 0 ([] : List Int) ([] : List Int)).bind fun t601 => (if t601 = true then ((paymasterref14_Same.f k x586000 x586001 x586002 x586003 x586004 0 0 0 ([] : List Int) ([] : List Int)).bind fun t602 => (if t602 = true then (if x13 = x14 then ((paymasterlaw14_awake.f k).bind fun t603 => (some t603)) else (none)) else (none))) else (none)))
def paymasterlaw14_WithholdStep.j2 : Nat → Int → Int → Int → Int → Int → Bool → List (S58) → List (S41) → Int → Int → Int → List Int → List Int → Int → Int → Int → List Int → List Int → Int → Int → Int → List Int → List Int → Option (Bool)
  | 0, _, _, _, _, _, _, _, _, _, _, _, _, _, _, _, _, _, _, _, _, _, _, _ => none
  | k + 1, x2, x3, x13, x14, x15, x74, x550000, x550001, x551000, x551001, x551002, x551003, x551004, x585000, x585001, x585002, x585003, x585004, x586000, x586001, x586002, x586003, x586004 => if x74 = true then (paymasterlaw14_WithholdStep.j3 k x2 x3 x13 3 x550000 x550001 x551000 x551001 x551002 x551003 x551004 x585000 x585001 x585002 x585003 x585004 x586000 x586001 x586002 x586003 x586004) else (if (x551003.length : Int) = 0 then (if (x551004.length : Int) = 0 then (paymasterlaw14_WithholdStep.j3 k x2 x3 x13 x14 x550000 x550001 x551000 x551001 x551002 x551003 x551004 x585000 x585001 x585002 x585003 x585004 x586000 x586001 x586002 x586003 x586004) else (if (x551004.length : Int) = x15 then (paymasterlaw14_WithholdStep.j3 k x2 x3 x13 x14 x550000 x550001 x551000 x551001 x551002 x551003 x551004 x585000 x585001 x585002 x585003 x585004 x586000 x586001 x586002 x586003 x586004) else (paymasterlaw14_WithholdStep.j3 k x2 x3 x13 1 x550000 x550001 x551000 x551001 x551002 x551003 x551004 x585000 x585001 x585002 x585003 x585004 x586000 x586001 x586002 x586003 x586004))) else (if (x551003.length : Int) = x15 then (if (x551004.length : Int) = 0 then (paymasterlaw14_WithholdStep.j3 k x2 x3 x13 x14 x550000 x550001 x551000 x551001 x551002 x551003 x551004 x585000 x585001 x585002 x585003 x585004 x586000 x586001 x586002 x586003 x586004) else (if (x551004.length : Int) = x15 then (paymasterlaw14_WithholdStep.j3 k x2 x3 x13 x14 x550000 x550001 x551000 x551001 x551002 x551003 x551004 x585000 x585001 x585002 x585003 x585004 x586000 x586001 x586002 x586003 x586004) else (paymasterlaw14_WithholdStep.j3 k x2 x3 x13 1 x550000 x550001 x551000 x551001 x551002 x551003 x551004 x585000 x585001 x585002 x585003 x585004 x586000 x586001 x586002 x586003 x586004))) else (paymasterlaw14_WithholdStep.j3 k x2 x3 x13 1 x550000 x550001 x551000 x551001 x551002 x551003 x551004 x585000 x585001 x585002 x585003 x585004 x586000 x586001 x586002 x586003 x586004)))
end
def paymasterlaw14_WithholdStep.f (k : Nat) (l0_0 : List (S58)) (l0_1 : List (S41)) (a1_0 : Int) (a1_1 : Int) (a1_2 : Int) (l1_3 : List Int) (l1_4 : List Int) (a2 : Int) (a3 : Int) : Option (Bool) := (paymasterlaw14_small.f l0_0 l0_1).bind fun t551 => (if t551 = true then (if (l1_3.length : Int) > 60 then (paymasterlaw14_WithholdStep.j0 k a2 a3 true l0_0 l0_1 a1_0 a1_1 a1_2 l1_3 l1_4) else (paymasterlaw14_WithholdStep.j0 k a2 a3 (decide ((l1_4.length : Int) > 60)) l0_0 l0_1 a1_0 a1_1 a1_2 l1_3 l1_4)) else (paymasterlaw14_WithholdStep.j0 k a2 a3 true l0_0 l0_1 a1_0 a1_1 a1_2 l1_3 l1_4))
def paymasterlaw14_WithholdStep.T3 : Bool × List (List Nat × List Nat) := (true, [([], []), ([0], [0]), ([1], [1]), ([], []), ([3], [3]), ([2, 4], [2, 4]), ([], []), ([6], [6]), ([5, 7, 5], [5, 7]), ([8], [8]), ([], [])])
def paymasterlaw14_WithholdStep.B3 : List Nat := [0, 1, 3, 0, 8, 31, 0, 64, 255, 511, 0]
theorem paymasterlaw14_WithholdStep.tab3 : rtab .any (opsOf Try.f6 3) = paymasterlaw14_WithholdStep.T3 := by kernel_rfl
theorem paymasterlaw14_WithholdStep.bits3 : waitsOk paymasterlaw14_WithholdStep.T3.2 paymasterlaw14_WithholdStep.B3 = true := by kernel_rfl
def paymasterlaw14_WithholdStep.T20 : Bool × List (List Nat × List Nat) := (true, [([], []), ([0], [0]), ([], []), ([2], [2]), ([], []), ([3, 4], [3, 4]), ([], []), ([6], [6]), ([], []), ([7, 8], [7, 8]), ([1, 5, 9, 1], [1, 5, 9]), ([], []), ([11, 10, 10, 0, 1, 2, 3, 4, 5, 6, 7, 8, 9, 10, 11], [10, 11])])
def paymasterlaw14_WithholdStep.B20 : List Nat := [0, 1, 0, 4, 0, 28, 0, 64, 0, 448, 1023, 0, 4095]
theorem paymasterlaw14_WithholdStep.tab20 : rtab .any (opsOf Try.f6 20) = paymasterlaw14_WithholdStep.T20 := by kernel_rfl
theorem paymasterlaw14_WithholdStep.bits20 : waitsOk paymasterlaw14_WithholdStep.T20.2 paymasterlaw14_WithholdStep.B20 = true := by kernel_rfl
def paymasterlaw14_WithholdStep.T21 : Bool × List (List Nat × List Nat) := (true, [([], []), ([], []), ([0, 1], [0, 1]), ([2, 2], [2]), ([3], [3]), ([3], [3]), ([3], [3]), ([5, 6, 3, 3], [3, 5, 6]), ([4, 7, 7, 3], [3, 4, 7]), ([3, 8], [3, 8]), ([9, 8], [9]), ([10], [10]), ([10], [10]), ([11, 12, 10], [10, 11, 12]), ([10, 13], [10, 13]), ([14, 10], [14]), ([15, 15], [15]), ([15, 16], [15, 16]), ([17, 16, 0, 1, 2, 3, 4, 5, 6, 7, 8, 9, 10, 11, 12, 13, 14, 15, 16, 17], [17])])
def paymasterlaw14_WithholdStep.B21 : List Nat := [0, 0, 3, 7, 15, 15, 15, 111, 255, 511, 1023, 2047, 2047, 8191, 16383, 32767, 65535, 131071, 262143]
theorem paymasterlaw14_WithholdStep.tab21 : rtab .any (opsOf Try.f6 21) = paymasterlaw14_WithholdStep.T21 := by kernel_rfl
theorem paymasterlaw14_WithholdStep.bits21 : waitsOk paymasterlaw14_WithholdStep.T21.2 paymasterlaw14_WithholdStep.B21 = true := by kernel_rfl
set_option maxHeartbeats 8000000 in
set_option maxRecDepth 100000 in
theorem paymasterlaw14_WithholdStep.calls (k : Nat) (A0_0 : Option Addr) (c0_0 : Nat) (l0_0 : List (S58)) (A0_1 : Option Addr) (c0_1 : Nat) (l0_1 : List (S41)) (a1_0 : Int) (a1_1 : Int) (a1_2 : Int) (A1_3 : Option Addr) (c1_3 : Nat) (l1_3 : List Int) (A1_4 : Option Addr) (c1_4 : Nat) (l1_4 : List Int) (a2 : Int) (a3 : Int) (r : Bool) (w : World) (hr0_0 : Kd.C k58 w A0_0 l0_0.length l0_0) (hc0_0 : l0_0.length ≤ c0_0) (hr0_1 : Kd.C k41 w A0_1 l0_1.length l0_1) (hc0_1 : l0_1.length ≤ c0_1) (hr1_3 : Kd.C (Kd.int .i64) w A1_3 l1_3.length l1_3) (hc1_3 : l1_3.length ≤ c1_3) (hr1_4 : Kd.C (Kd.int .i64) w A1_4 l1_4.length l1_4) (hc1_4 : l1_4.length ≤ c1_4) (h : paymasterlaw14_WithholdStep.f k l0_0 l0_1 a1_0 a1_1 a1_2 l1_3 l1_4 a2 a3 = some r) :
    Calls Try.prog 6 #[.agg #[.slice A0_0 l0_0.length c0_0, .slice A0_1 l0_1.length c0_1], .agg #[.int .i64 a1_0, .int .i64 a1_1, .int .i64 a1_2, .slice A1_3 l1_3.length c1_3, .slice A1_4 l1_4.length c1_4], .int .i64 a2, .int .i64 a3] w fun e w' => e = .returned (.bool r) ∧ Below w.heap.size w w' := by
 have hu25 := Try.underlying25
 have hu30 := Try.underlying30
 have hu35 := Try.underlying35
 have HR0_0 := Aside0.mk hr0_0
 have HC0_0 := Aside0.mk hc0_0
 clear hr0_0 hc0_0
 have HR0_1 := Aside0.mk hr0_1
 have HC0_1 := Aside0.mk hc0_1
 clear hr0_1 hc0_1
 have HR1_3 := Aside0.mk hr1_3
 have HC1_3 := Aside0.mk hc1_3
 clear hr1_3 hc1_3
 have HR1_4 := Aside0.mk hr1_4
 have HC1_4 := Aside0.mk hc1_4
 clear hr1_4 hc1_4
 have HB := Aside0.mk (Below.refl w.heap.size w)
 have H : ((paymasterlaw14_small.f l0_0 l0_1).bind fun t551 => (if t551 = true then (if (l1_3.length : Int) > 60 then (paymasterlaw14_WithholdStep.j0 k a2 a3 true l0_0 l0_1 a1_0 a1_1 a1_2 l1_3 l1_4) else (paymasterlaw14_WithholdStep.j0 k a2 a3 (decide ((l1_4.length : Int) > 60)) l0_0 l0_1 a1_0 a1_1 a1_2 l1_3 l1_4)) else (paymasterlaw14_WithholdStep.j0 k a2 a3 true l0_0 l0_1 a1_0 a1_1 a1_2 l1_3 l1_4))) = some r := h
 clear h
 have HC5 := Aside0.mk H
 clear H
 go_enter Try.func6, Try.ntmps6
 go_upto_region 1 with (first | ((with_reducible refine gate_dst (N := 4) rfl ?_); (try (refine gate_guard (by rfl) ?_; dsimp only)); refine bx_ 4 #[.slice A0_0 l0_0.length c0_0, .slice A0_1 l0_1.length c0_1] 25 ?_; intro gb549 hg w6 hbox hb; have BK549 := Aside0.mk hbox; have GW549 := gs_ hg; have GE549 := gs_ hg; replace HB := hs_ hb; clear hb hbox hg) | ((with_reducible refine gate_dst (N := 5) rfl ?_); (try (refine gate_guard (by rfl) ?_; dsimp only)); refine bx_ 5 #[.int .i64 a1_0, .int .i64 a1_1, .int .i64 a1_2, .slice A1_3 l1_3.length c1_3, .slice A1_4 l1_4.length c1_4] 30 ?_; intro gb550 hg w7 hbox hb; have BK550 := Aside0.mk hbox; have GW550 := gs_ hg; have GE550 := gs_ hg; have NB549_550 := nl_ hg BK549.out; have NB550_549 := ng_ hg BK549.out; replace BK549 := bb_ BK549.out hb; replace HB := hs_ hb; clear hb hbox hg))
 (try simp only [Act.put, List.setIfInBounds_toArray, List.set_cons_zero, List.set_cons_succ])
 go_cut [33] from 33 to 33 (fun v33 wc => ∃ (kq : Nat) (x33_4 : Bool), v33 = .bool x33_4 ∧ Aside0 (paymasterlaw14_WithholdStep.j0 kq a2 a3 x33_4 l0_0 l0_1 a1_0 a1_1 a1_2 l1_3 l1_4 = some r) ∧ Aside0 (kq ≤ k) ∧ Aside0 (wc.heap[gb549]? = some (.cells #[(.slice A0_0 l0_0.length c0_0), (.slice A0_1 l0_1.length c0_1)] 25 (0, 0))) ∧ Aside0 (wc.heap[gb550]? = some (.cells #[.int .i64 a1_0, .int .i64 a1_1, .int .i64 a1_2, (.slice A1_3 l1_3.length c1_3), (.slice A1_4 l1_4.length c1_4)] 30 (0, 0))) ∧ Aside0 (Below w.heap.size w wc))
 case first =>
  have H := HC5.out
  clear HC5
  replace H := Option.bind_eq_some_iff.mp H
  obtain ⟨t551, A80, H⟩ := H
  (try dsimp only at H)
  have A8 := Aside0.mk A80
  clear A80
  by_cases c9 : t551 = true
  ·subst c9
   rw [if_pos rfl] at H
   by_cases c10 : (l1_3.length : Int) > 60
   ·rw [if_pos c10] at H
    have c10b0 : decide (60 < (l1_3.length : Int)) = true := decide_eq_true c10
    have c10b1 : decide (60 < l1_3.length) = true := decide_eq_true (by omega)
    clear c10
    (first | rw [c10b0] | (simp only [i64_w, i32_w]; rw [c10b0]) | skip)
    have H' := Aside0.mk H
    clear H
    have hnb11 := NB549_550.out
    have hnc11 := NB550_549.out
    obtain ⟨hcz12_0, hcz12_1, hfz12_0, hfz12_1⟩ := c2_ BK549.out
    go_wp2_with (first | ((with_reducible refine gate_callee (f := 9) rfl ?_); refine goesL_ (some 20) rfl rfl Try.func9 (by kernel_rfl) rfl #[.agg #[.slice A0_0 l0_0.length c0_0, .slice A0_1 l0_1.length c0_1]] rfl ga_ ?_; (with_reducible refine (paymasterlaw14_small.calls _ _ l0_0 _ _ l0_1 true _ ?side1 ?side2 ?side3 ?side4 A8.out).mono ?_); (case side1 => exact kc_ (Kd.C_below HR0_0.out HB.out)); (case side2 => exact HC0_0.out); (case side3 => exact kc_ (Kd.C_below HR0_1.out HB.out)); (case side4 => exact HC0_1.out); rintro e w13 ⟨rfl, hb⟩; refine ⟨_, rfl, ?_⟩; replace BK549 := bb_ BK549.out hb; replace BK550 := bb_ BK550.out hb; replace HB := hs_ hb; (try clear hb); (try clear hb2); (try clear hk); (try clear hi); obtain ⟨hcz14_0, hcz14_1, hcz14_2, hcz14_3, hcz14_4, hfz14_0, hfz14_1, hfz14_2, hfz14_3, hfz14_4⟩ := c5_ BK550.out))
    go_meet
    case rel => exact ⟨_, (true), sm_, H', ⟨by first | omega | exact Nat.le_refl _⟩, ⟨bq_ BK549.out⟩, ⟨bq_ BK550.out⟩, ⟨bl_⟩⟩
   ·rw [if_neg c10] at H
    have c10b0 : decide (60 < (l1_3.length : Int)) = false := decide_eq_false c10
    have c10b1 : decide (60 < l1_3.length) = false := decide_eq_false (by omega)
    clear c10
    (first | rw [c10b0] | (simp only [i64_w, i32_w]; rw [c10b0]) | skip)
    have H' := Aside0.mk H
    clear H
    have hnb15 := NB549_550.out
    have hnc15 := NB550_549.out
    obtain ⟨hcz16_0, hcz16_1, hfz16_0, hfz16_1⟩ := c2_ BK549.out
    go_wp2_with (first | ((with_reducible refine gate_callee (f := 9) rfl ?_); refine goesL_ (some 20) rfl rfl Try.func9 (by kernel_rfl) rfl #[.agg #[.slice A0_0 l0_0.length c0_0, .slice A0_1 l0_1.length c0_1]] rfl ga_ ?_; (with_reducible refine (paymasterlaw14_small.calls _ _ l0_0 _ _ l0_1 true _ ?side1 ?side2 ?side3 ?side4 A8.out).mono ?_); (case side1 => exact kc_ (Kd.C_below HR0_0.out HB.out)); (case side2 => exact HC0_0.out); (case side3 => exact kc_ (Kd.C_below HR0_1.out HB.out)); (case side4 => exact HC0_1.out); rintro e w17 ⟨rfl, hb⟩; refine ⟨_, rfl, ?_⟩; replace BK549 := bb_ BK549.out hb; replace BK550 := bb_ BK550.out hb; replace HB := hs_ hb; (try clear hb); (try clear hb2); (try clear hk); (try clear hi); obtain ⟨hcz18_0, hcz18_1, hcz18_2, hcz18_3, hcz18_4, hfz18_0, hfz18_1, hfz18_2, hfz18_3, hfz18_4⟩ := c5_ BK550.out))
    go_meet
    case rel => exact ⟨_, (decide ((l1_4.length : Int) > 60)), sm_, H', ⟨by first | omega | exact Nat.le_refl _⟩, ⟨bq_ BK549.out⟩, ⟨bq_ BK550.out⟩, ⟨bl_⟩⟩
  ·replace c9 := Bool.eq_false_iff.mpr c9
   subst c9
   rw [if_neg (show ¬ (false = true) by decide)] at H
   have H' := Aside0.mk H
   clear H
   have hnb19 := NB549_550.out
   have hnc19 := NB550_549.out
   obtain ⟨hcz20_0, hcz20_1, hfz20_0, hfz20_1⟩ := c2_ BK549.out
   go_wp2_with (first | ((with_reducible refine gate_callee (f := 9) rfl ?_); refine goesL_ (some 20) rfl rfl Try.func9 (by kernel_rfl) rfl #[.agg #[.slice A0_0 l0_0.length c0_0, .slice A0_1 l0_1.length c0_1]] rfl ga_ ?_; (with_reducible refine (paymasterlaw14_small.calls _ _ l0_0 _ _ l0_1 false _ ?side1 ?side2 ?side3 ?side4 A8.out).mono ?_); (case side1 => exact kc_ (Kd.C_below HR0_0.out HB.out)); (case side2 => exact HC0_0.out); (case side3 => exact kc_ (Kd.C_below HR0_1.out HB.out)); (case side4 => exact HC0_1.out); rintro e w21 ⟨rfl, hb⟩; refine ⟨_, rfl, ?_⟩; replace BK549 := bb_ BK549.out hb; replace BK550 := bb_ BK550.out hb; replace HB := hs_ hb; (try clear hb); (try clear hb2); (try clear hk); (try clear hi)))
   go_meet
   case rel => exact ⟨_, (true), sm_, H', ⟨by first | omega | exact Nat.le_refl _⟩, ⟨bq_ BK549.out⟩, ⟨bq_ BK550.out⟩, ⟨bl_⟩⟩
 case rest =>
  clear HC5
  obtain ⟨kq, x33_4, rfl, HA, HJ4, BK549, BK550, HB⟩ := hcut
  cases kq with
  | zero => exact absurd HA.out (by simp [paymasterlaw14_WithholdStep.j0])
  | succ kj4 =>
   have H := HA.out
   clear HA
   simp only [paymasterlaw14_WithholdStep.j0] at H
   by_cases c22 : x33_4 = true
   ·subst c22
    rw [if_pos rfl] at H
    replace H := Option.bind_eq_some_iff.mp H
    obtain ⟨t552, A230, H⟩ := H
    (try dsimp only at H)
    have A23 := Aside0.mk A230
    clear A230
    obtain rfl := Option.some.inj H
    go_wp2_with (first | ((with_reducible refine gate_callee (f := 10) rfl ?_); refine goesL_ (some 34) rfl rfl Try.func10 (by kernel_rfl) rfl #[] rfl ga_ ?_; (with_reducible refine (paymasterlaw14_awake.calls kj4  t552 _ A23.out).mono ?_); rintro e w24 ⟨rfl, hb⟩; refine ⟨_, rfl, ?_⟩; replace BK549 := bb_ BK549.out hb; replace BK550 := bb_ BK550.out hb; replace HB := hs_ hb; (try clear hb); (try clear hb2); (try clear hk); (try clear hi)))
    go_ret
    exact ⟨se_, bl_⟩
   ·replace c22 := Bool.eq_false_iff.mpr c22
    subst c22
    rw [if_neg (show ¬ (false = true) by decide)] at H
    obtain ⟨y553, hy553⟩ : ∃ y_ : List Int, y_ = (([a1_2] : List Int)) := ⟨_, rfl⟩
    replace H : (if y553.length + l1_3.length < 17592186044416 then ((some (y553 ++ l1_3 : List Int)).bind fun y556 => (if y556.length + l1_4.length < 17592186044416 then ((some (y556 ++ l1_4 : List Int)).bind fun y559 => (paymasterlaw14_WithholdStep.l0 kj4 a2 a3 y559 (y559.length : Int) 0 l0_0 l0_1 a1_0 a1_1 a1_2 l1_3 l1_4)) else (none))) else (none)) = some r := by first | (rw [hy553]; with_reducible exact H) | (have H2_ := (Option.bind_some _ _).symm.trans H; rw [hy553]; with_reducible exact H2_) | (have H2_ := (Option.bind_some _ _).symm.trans H; with_reducible exact H2_) | with_reducible exact H | (rw [hy553]; exact H) | exact H
    have Ny553 := Aside0.mk hy553
    clear hy553
    by_cases c25 : y553.length + l1_3.length < 17592186044416
    ·rw [if_pos c25] at H
     have LMc25 := Aside0.mk c25
     clear c25
     obtain ⟨y556, hy556⟩ : ∃ y_ : List Int, y_ = (y553 ++ l1_3) := ⟨_, rfl⟩
     replace H : (if y556.length + l1_4.length < 17592186044416 then ((some (y556 ++ l1_4 : List Int)).bind fun y559 => (paymasterlaw14_WithholdStep.l0 kj4 a2 a3 y559 (y559.length : Int) 0 l0_0 l0_1 a1_0 a1_1 a1_2 l1_3 l1_4)) else (none)) = some r := by first | (rw [hy556]; with_reducible exact H) | (have H2_ := (Option.bind_some _ _).symm.trans H; rw [hy556]; with_reducible exact H2_) | (have H2_ := (Option.bind_some _ _).symm.trans H; with_reducible exact H2_) | with_reducible exact H | (rw [hy556]; exact H) | exact H
     have Ny556 := Aside0.mk hy556
     clear hy556
     by_cases c26 : y556.length + l1_4.length < 17592186044416
     ·rw [if_pos c26] at H
      have LMc26 := Aside0.mk c26
      clear c26
      obtain ⟨y559, hy559⟩ : ∃ y_ : List Int, y_ = (y556 ++ l1_4) := ⟨_, rfl⟩
      replace H : (paymasterlaw14_WithholdStep.l0 kj4 a2 a3 y559 (y559.length : Int) 0 l0_0 l0_1 a1_0 a1_1 a1_2 l1_3 l1_4) = some r := by first | (rw [hy559]; with_reducible exact H) | (have H2_ := (Option.bind_some _ _).symm.trans H; rw [hy559]; with_reducible exact H2_) | (have H2_ := (Option.bind_some _ _).symm.trans H; with_reducible exact H2_) | with_reducible exact H | (rw [hy559]; exact H) | exact H
      have Ny559 := Aside0.mk hy559
      clear hy559
      have H' := Aside0.mk H
      clear H
      try go_wp2
      replace BK549 := Aside0.mk (blk_drew BK549.out)
      replace BK550 := Aside0.mk (blk_drew BK550.out)
      replace HB := Aside0.mk (below_drew1 HB.out)
      refine start_ (n := 11) (S := fun w' => w'.cell? ⟨gb550, 0, none⟩ = some (.int .i64 a1_0) ∧ w'.cell? ⟨gb550, 1, none⟩ = some (.int .i64 a1_1) ∧ w'.cell? ⟨gb550, 2, none⟩ = some (.int .i64 a1_2) ∧ w'.cell? ⟨gb550, 3, none⟩ = some (.slice A1_3 l1_3.length c1_3) ∧ w'.cell? ⟨gb550, 4, none⟩ = some (.slice A1_4 l1_4.length c1_4)) (ds := []) #[false, false, false, false, false, false, false, false, false, false, false] (by kernel_rfl) rfl rfl ⟨(blk_cell BK550.out 0).trans rfl, (blk_cell BK550.out 1).trans rfl, (blk_cell BK550.out 2).trans rfl, (blk_cell BK550.out 3).trans rfl, (blk_cell BK550.out 4).trans rfl⟩ (fun hHeld => ?_); refine with_tabW paymasterlaw14_WithholdStep.tab3 paymasterlaw14_WithholdStep.bits3 (fun HT_ HW_ => ?_)
      generalize wc.drew = w27 at BK549 BK550 HB hHeld ⊢
      refine pure_ (i := 0) (N := some 35) (v := ?_) (a' := ?_) #[true, false, false, false, false, false, false, false, false, false, false] rfl rfl (any_of HT_.out (by kernel_rfl)) (fun _ _ _ h => h) (Or.inl ⟨by rfl, ?_⟩) ?_ ?_
      rotate_left
      ·intro w'
       go_simp
       with_reducible rfl
      rotate_left
      ·simp only [Act.put, List.setIfInBounds_toArray, List.set_cons_zero, List.set_cons_succ, i64_w, i32_w]
       rfl
      refine pure_ (i := 3) (N := some 38) (v := ?_) (a' := ?_) #[true, false, false, true, false, false, false, false, false, false, false] rfl rfl (any_of HT_.out (by kernel_rfl)) (fun _ _ _ h => h) (Or.inl ⟨by rfl, ?_⟩) ?_ ?_
      rotate_left
      ·intro w'
       go_simp
       with_reducible rfl
      rotate_left
      ·simp only [Act.put, List.setIfInBounds_toArray, List.set_cons_zero, List.set_cons_succ, i64_w, i32_w]
       rfl
      refine pure_ (i := 6) (N := some 41) (v := ?_) (a' := ?_) #[true, false, false, true, false, false, true, false, false, false, false] rfl rfl (any_of HT_.out (by kernel_rfl)) (fun _ _ _ h => h) (Or.inl ⟨by rfl, ?_⟩) ?_ ?_
      rotate_left
      ·intro w'
       go_simp
       with_reducible rfl
      rotate_left
      ·simp only [Act.put, List.setIfInBounds_toArray, List.set_cons_zero, List.set_cons_succ, i64_w, i32_w]
       rfl
      refine pure_ (i := 10) (N := some 45) (v := ?_) (a' := ?_) #[true, false, false, true, false, false, true, false, false, false, true] rfl rfl (any_of HT_.out (by kernel_rfl)) (fun _ _ _ h => h) (Or.inl ⟨by rfl, ?_⟩) ?_ ?_
      rotate_left
      ·intro w'
       go_simp
       with_reducible rfl
      rotate_left
      ·simp only [Act.put, List.setIfInBounds_toArray, List.set_cons_zero, List.set_cons_succ, i64_w, i32_w]
       rfl
      refine take_ (i := 1) (N := some 36) (v := ?_) (a' := ?_) #[true, true, false, true, false, false, true, false, false, false, true] rfl rfl (take_ofW HT_.out HW_.out (by kernel_rfl)) (fun _ _ _ h => h) (Or.inl ⟨by rfl, ?_⟩) hHeld ?_ ?_
      rotate_left
      ·rintro w' ⟨s0, s1, s2, s3, s4⟩
       go_simp
       with_reducible rfl
      rotate_left
      ·simp only [Act.put, List.setIfInBounds_toArray, List.set_cons_zero, List.set_cons_succ, i64_w, i32_w]
       rfl
      refine take_ (i := 4) (N := some 39) (v := ?_) (a' := ?_) #[true, true, false, true, true, false, true, false, false, false, true] rfl rfl (take_ofW HT_.out HW_.out (by kernel_rfl)) (fun _ _ _ h => h) (Or.inl ⟨by rfl, ?_⟩) hHeld ?_ ?_
      rotate_left
      ·rintro w' ⟨s0, s1, s2, s3, s4⟩
       go_simp
       with_reducible rfl
      rotate_left
      ·simp only [Act.put, List.setIfInBounds_toArray, List.set_cons_zero, List.set_cons_succ, i64_w, i32_w]
       rfl
      refine take_ (i := 7) (N := some 42) (v := ?_) (a' := ?_) #[true, true, false, true, true, false, true, true, false, false, true] rfl rfl (take_ofW HT_.out HW_.out (by kernel_rfl)) (fun _ _ _ h => h) (Or.inl ⟨by rfl, ?_⟩) hHeld ?_ ?_
      rotate_left
      ·rintro w' ⟨s0, s1, s2, s3, s4⟩
       go_simp
       with_reducible rfl
      rotate_left
      ·simp only [Act.put, List.setIfInBounds_toArray, List.set_cons_zero, List.set_cons_succ, i64_w, i32_w]
       rfl
      refine one_ (i := 2) (N := some 37) #[true, true, true, true, true, false, true, true, false, false, true] rfl rfl (one_of HT_.out (by kernel_rfl)) (by decide) (fun K hK => ?_)
      refine Kd.R_lit_step (Kd.int .i64) _ 3 ?hg (N := 37) ?hd (xs := ([a1_2] : List Int)) (inner := [.int .i64 a1_2]) (ok := fun _ => True) (okp := fun _ => True) ?hr ?hp (fun _ hk => hk) trivial (Below.refl _ _) (Nat.le_refl _) (by simp) ?_; (case hd => rfl); (case hg => rfl); (case hr => first | (go_simp; done) | (go_simp; rfl)); (case hp => exact (Reps.one (show Kd.M (Kd.int .i64) _ _ _ a1_2 [.int .i64 a1_2] from rfl) (Reps.none _ _)))
      intro v554 w28 ho29 hb hg_ hnew_
      clear hg_ hnew_
      (first | rw [← Ny553.out] at ho29 | (simp only [Int.reduceToNat] at ho29; rw [← Ny553.out] at ho29))
      have HO555 := rl0_ ho29
      replace BK549 := bb_ BK549.out hb
      replace BK550 := bb_ BK550.out hb
      replace HB := hs_ hb
      clear hb ho29
      refine hK.out _ _ ⟨(blk_cell BK550.out 0).trans rfl, (blk_cell BK550.out 1).trans rfl, (blk_cell BK550.out 2).trans rfl, (blk_cell BK550.out 3).trans rfl, (blk_cell BK550.out 4).trans rfl⟩ (fun hHeld => ?_)
      clear hK K
      refine norm_ (a' := ?_) ?_ ?_
      rotate_left
      ·show Act.put _ (some 37) _ = _
       simp only [Act.put, List.setIfInBounds_toArray, List.set_cons_zero, List.set_cons_succ, i64_w, i32_w]
       rfl
      refine one_ (i := 5) (N := some 40) #[true, true, true, true, true, true, true, true, false, false, true] rfl rfl (one_of HT_.out (by kernel_rfl)) (by decide) (fun K hK => ?_)
      refine Kd.R_append_rows_step (Kd.int .i64) (w0 := w) w.heap.size (by rfl) (.tmp 37) (.tmp 39) 28 3 (.int .i64 0) 8 rfl Try.underlying28 info3 rfl (by decide) (by omega) v554 y553 l1_3 _ _ _ (fun _ => True) (fun _ => False) rfl rfl ?aO ?aR (fun _ _ h => h) (fun _ h => h.elim) ?aF ?aB ?aS ?aL ?_
      (case aR => exact kc_ (Kd.C_below HR1_3.out HB.out))
      (case aB => exact bl_)
      (case aF => exact (fun _ _ => trivial))
      (case aO => exact (rs_ HO555.out))
      (case aS => exact (below_size bl_))
      (case aL => have := LMc25.out; omega)
      intro v557 w30 ho hb hg hat
      rw [← Ny556.out] at ho
      have HO558 := Aside0.mk (ho)
      replace BK549 := bg_ BK549.out hg (Kd.R_ne HO555.out BK549.out (by decide))
      replace BK550 := bg_ BK550.out hg (Kd.R_ne HO555.out BK550.out (by decide))
      replace HB := Aside0.mk (hb)
      clear HO555
      clear ho hb hg hat
      refine hK.out _ _ ⟨(blk_cell BK550.out 0).trans rfl, (blk_cell BK550.out 1).trans rfl, (blk_cell BK550.out 2).trans rfl, (blk_cell BK550.out 3).trans rfl, (blk_cell BK550.out 4).trans rfl⟩ (fun hHeld => ?_)
      clear hK K
      refine norm_ (a' := ?_) ?_ ?_
      rotate_left
      ·show Act.put _ (some 40) _ = _
       simp only [Act.put, List.setIfInBounds_toArray, List.set_cons_zero, List.set_cons_succ, i64_w, i32_w]
       rfl
      refine one_ (i := 8) (N := some 43) #[true, true, true, true, true, true, true, true, true, false, true] rfl rfl (one_of HT_.out (by kernel_rfl)) (by decide) (fun K hK => ?_)
      refine Kd.R_append_rows_step (Kd.int .i64) (w0 := w) w.heap.size (by rfl) (.tmp 40) (.tmp 42) 28 3 (.int .i64 0) 8 rfl Try.underlying28 info3 rfl (by decide) (by omega) v557 y556 l1_4 _ _ _ (fun _ => True) (fun _ => False) rfl rfl ?aO ?aR (fun _ _ h => h) (fun _ h => h.elim) ?aF ?aB ?aS ?aL ?_
      (case aR => exact kc_ (Kd.C_below HR1_4.out HB.out))
      (case aB => exact bl_)
      (case aF => exact (fun _ _ => trivial))
      (case aO => exact (rs_ HO558.out))
      (case aS => exact (below_size bl_))
      (case aL => have := LMc26.out; omega)
      intro v560 w31 ho hb hg hat
      rw [← Ny559.out] at ho
      have HO561 := Aside0.mk (ho)
      replace BK549 := bg_ BK549.out hg (Kd.R_ne HO558.out BK549.out (by decide))
      replace BK550 := bg_ BK550.out hg (Kd.R_ne HO558.out BK550.out (by decide))
      replace HB := Aside0.mk (hb)
      clear HO558
      clear ho hb hg hat
      obtain ⟨Ao32, co32, eo32⟩ := Kd.R_slice HO561.out
      (first | subst eo32 | (injection eo32 with f1_ f2_ f3_; have f4_ := f1_.symm; have f5_ := f3_.symm; clear f1_ f2_ f3_; subst f4_; subst f5_))
      refine hK.out _ _ ⟨(blk_cell BK550.out 0).trans rfl, (blk_cell BK550.out 1).trans rfl, (blk_cell BK550.out 2).trans rfl, (blk_cell BK550.out 3).trans rfl, (blk_cell BK550.out 4).trans rfl⟩ (fun hHeld => ?_)
      clear hK K
      refine norm_ (a' := ?_) ?_ ?_
      rotate_left
      ·show Act.put _ (some 43) _ = _
       simp only [Act.put, List.setIfInBounds_toArray, List.set_cons_zero, List.set_cons_succ, i64_w, i32_w]
       rfl
      refine pure_ (i := 9) (N := some 44) (v := ?_) (a' := ?_) #[true, true, true, true, true, true, true, true, true, true, true] rfl rfl (any_of HT_.out (by kernel_rfl)) (fun _ _ _ h => h) (Or.inl ⟨by rfl, ?_⟩) ?_ ?_
      rotate_left
      ·intro w'
       go_simp
       with_reducible rfl
      rotate_left
      ·simp only [Act.put, List.setIfInBounds_toArray, List.set_cons_zero, List.set_cons_succ, i64_w, i32_w]
       rfl
      refine done_ (done_of HT_.out (by kernel_rfl)) ?_
      try go_wp2
      go_loopg [45] kj4 (fun kq v45 w' => ∃ (x45_2 : Int), v45 = .int .i64 x45_2 ∧ Aside0 (paymasterlaw14_WithholdStep.l0 kq a2 a3 y559 (y559.length : Int) x45_2 l0_0 l0_1 a1_0 a1_1 a1_2 l1_3 l1_4 = some r) ∧ Aside0 (kq ≤ kj4) ∧ Aside0 (Kd.R (Kd.int .i64) 3 w' w.heap.size (fun _ => True) (.slice Ao32 y559.length co32) y559) ∧ Aside0 (w'.heap[gb549]? = some (.cells #[(.slice A0_0 l0_0.length c0_0), (.slice A0_1 l0_1.length c0_1)] 25 (0, 0))) ∧ Aside0 (w'.heap[gb550]? = some (.cells #[.int .i64 a1_0, .int .i64 a1_1, .int .i64 a1_2, (.slice A1_3 l1_3.length c1_3), (.slice A1_4 l1_4.length c1_4)] 30 (0, 0))) ∧ Aside0 (Below w.heap.size w w'))
      case atStart => exact ⟨(0), sm_, H', ⟨Nat.le_refl _⟩, ⟨rs_ HO561.out⟩, ⟨bq_ BK549.out⟩, ⟨bq_ BK550.out⟩, ⟨bl_⟩⟩
      case round =>
       clear H'
       try clear c22; try clear c25; try clear c26
       obtain ⟨x45_2, rfl, HA, HK2, HO_43, BK549, BK550, HB⟩ := hrel
       cases gk with
       | zero => exact absurd HA.out (by simp [paymasterlaw14_WithholdStep.l0])
       | succ k2 =>
        have H := HA.out
        clear HA
        simp only [paymasterlaw14_WithholdStep.l0] at H
        by_cases c33 : x45_2 < (y559.length : Int)
        ·rw [if_pos c33] at H
         have c33b0 : decide (x45_2 < (y559.length : Int)) = true := decide_eq_true c33
         clear c33
         by_cases c34 : 0 ≤ x45_2
         ·rw [if_pos c34] at H
          have c34b0 : decide (0 ≤ x45_2) = true := decide_eq_true c34
          clear c34
          by_cases c35 : x45_2 < (y559.length : Int)
          ·rw [if_pos c35] at H
           have c35b0 : decide (x45_2 < (y559.length : Int)) = true := decide_eq_true c35
           clear c35
           by_cases c36 : (rd y559 x45_2) > 1152921504606846976
           ·rw [if_pos c36] at H
            have c36b0 : decide (1152921504606846976 < (rd y559 x45_2)) = true := decide_eq_true c36
            clear c36
            replace H := Option.bind_eq_some_iff.mp H
            obtain ⟨t563, A370, H⟩ := H
            (try dsimp only at H)
            have A37 := Aside0.mk A370
            clear A370
            obtain rfl := Option.some.inj H
            have p562 : 0 ≤ (x45_2 : Int) := od_
            have q562 : x45_2 < (y559.length : Int) := od_
            obtain ⟨ad562, e562, hx562_0⟩ := Kd.at_int (Kd.R_reads' HO_43.out).2.2 x45_2 p562 q562
            cases e562
            replace p562 := eq_true p562
            replace q562 := eq_true q562
            go_wp2_with (first | ((with_reducible refine gate_callee (f := 10) rfl ?_); refine goesL_ (some 55) rfl rfl Try.func10 (by kernel_rfl) rfl #[] rfl ga_ ?_; (with_reducible refine (paymasterlaw14_awake.calls k2  t563 _ A37.out).mono ?_); rintro e w38 ⟨rfl, hb⟩; refine ⟨_, rfl, ?_⟩; replace HO_43 := rl_ HO_43.out hb; replace BK549 := bb_ BK549.out hb; replace BK550 := bb_ BK550.out hb; replace HB := hs_ hb; (try clear hb); (try clear hb2); (try clear hk); (try clear hi)))
            go_ret
            exact ⟨se_, bl_⟩
           ·rw [if_neg c36] at H
            have c36b0 : decide (1152921504606846976 < (rd y559 x45_2)) = false := decide_eq_false c36
            clear c36
            by_cases c39 : (rd y559 x45_2) < (-1152921504606846976)
            ·rw [if_pos c39] at H
             have c39b0 : decide ((rd y559 x45_2) < (-1152921504606846976)) = true := decide_eq_true c39
             clear c39
             replace H := Option.bind_eq_some_iff.mp H
             obtain ⟨t564, A400, H⟩ := H
             (try dsimp only at H)
             have A40 := Aside0.mk A400
             clear A400
             obtain rfl := Option.some.inj H
             have p562 : 0 ≤ (x45_2 : Int) := od_
             have q562 : x45_2 < (y559.length : Int) := od_
             obtain ⟨ad562, e562, hx562_0⟩ := Kd.at_int (Kd.R_reads' HO_43.out).2.2 x45_2 p562 q562
             cases e562
             replace p562 := eq_true p562
             replace q562 := eq_true q562
             go_wp2_with (first | ((with_reducible refine gate_callee (f := 10) rfl ?_); refine goesL_ (some 55) rfl rfl Try.func10 (by kernel_rfl) rfl #[] rfl ga_ ?_; (with_reducible refine (paymasterlaw14_awake.calls k2  t564 _ A40.out).mono ?_); rintro e w41 ⟨rfl, hb⟩; refine ⟨_, rfl, ?_⟩; replace HO_43 := rl_ HO_43.out hb; replace BK549 := bb_ BK549.out hb; replace BK550 := bb_ BK550.out hb; replace HB := hs_ hb; (try clear hb); (try clear hb2); (try clear hk); (try clear hi)))
             go_ret
             exact ⟨se_, bl_⟩
            ·rw [if_neg c39] at H
             have c39b0 : decide ((rd y559 x45_2) < (-1152921504606846976)) = false := decide_eq_false c39
             clear c39
             have H' := Aside0.mk H
             clear H
             have p562 : 0 ≤ (x45_2 : Int) := od_
             have q562 : x45_2 < (y559.length : Int) := od_
             obtain ⟨ad562, e562, hx562_0⟩ := Kd.at_int (Kd.R_reads' HO_43.out).2.2 x45_2 p562 q562
             cases e562
             replace p562 := eq_true p562
             replace q562 := eq_true q562
             go_wp2
             go_roundg k2
             case measure => have := HJ4.out; have := HK2.out; omega
             case rel => exact ⟨(wrap64 (x45_2 + 1)), sm_, H', ⟨by have := HJ4.out; have := HK2.out; omega⟩, ⟨rs_ HO_43.out⟩, ⟨bq_ BK549.out⟩, ⟨bq_ BK550.out⟩, ⟨bl_⟩⟩
          ·rw [if_neg c35] at H
           exact absurd H (by simp)
         ·rw [if_neg c34] at H
          exact absurd H (by simp)
        ·rw [if_neg c33] at H
         have c33b0 : decide (x45_2 < (y559.length : Int)) = false := decide_eq_false c33
         clear c33
         replace H := Option.bind_eq_some_iff.mp H
         obtain ⟨⟨t565, t566, t567, t568, t571, t574, t575, t576, t577, t580, t583⟩, A420, H⟩ := H
         (try dsimp only at H)
         have A42 := Aside0.mk A420
         clear A420
         have HC43 := Aside0.mk H
         clear H
         have hnb44 := NB549_550.out
         have hnc44 := NB550_549.out
         obtain ⟨hcz45_0, hcz45_1, hfz45_0, hfz45_1⟩ := c2_ BK549.out
         obtain ⟨hcz46_0, hcz46_1, hcz46_2, hcz46_3, hcz46_4, hfz46_0, hfz46_1, hfz46_2, hfz46_3, hfz46_4⟩ := c5_ BK550.out
         try go_wp2_with (first | ((with_reducible refine gate_callee (f := 11) rfl ?_); refine goesL_ (some 62) rfl rfl Try.func11 (by kernel_rfl) rfl #[.agg #[.slice A0_0 l0_0.length c0_0, .slice A0_1 l0_1.length c0_1], .agg #[.int .i64 a1_0, .int .i64 a1_1, .int .i64 a1_2, .slice A1_3 l1_3.length c1_3, .slice A1_4 l1_4.length c1_4], .int .i64 a2, .int .i64 a3] rfl ga_ ?_; (with_reducible refine (withhold_Step.calls k2 _ _ l0_0 _ _ l0_1 a1_0 a1_1 a1_2 _ _ l1_3 _ _ l1_4 a2 a3 t565 t566 t567 t568 t571 t574 t575 t576 t577 t580 t583 _ ?side1 ?side2 ?side3 ?side4 ?side5 ?side6 ?side7 ?side8 A42.out).mono ?_); (case side1 => exact kc_ (Kd.C_below HR0_0.out HB.out)); (case side2 => exact HC0_0.out); (case side3 => exact kc_ (Kd.C_below HR0_1.out HB.out)); (case side4 => exact HC0_1.out); (case side5 => exact kc_ (Kd.C_below HR1_3.out HB.out)); (case side6 => exact HC1_3.out); (case side7 => exact kc_ (Kd.C_below HR1_4.out HB.out)); (case side8 => exact HC1_4.out); rintro e w47 ⟨v569, v572, v578, v581, rfl, ho0, ho1, ho2, ho3, hb⟩; refine ⟨_, rfl, ?_⟩; have HO570 := rl0_ (rn_ ho0 HO_43.out); have HO573 := rl0_ (rn_ ho1 HO_43.out); have HO579 := rl0_ (rn_ ho2 HO_43.out); have HO582 := rl0_ (rn_ ho3 HO_43.out); replace HO_43 := ro4_ HO_43.out hb ho0 ho1 ho2 ho3; replace BK549 := bb_ BK549.out hb; replace BK550 := bb_ BK550.out hb; replace HB := hs_ hb; (try clear hb); (try clear hb2); (try clear hk); (try clear hi); (try clear ho0); (try clear ho1); (try clear ho2); (try clear ho3)) | ((with_reducible refine gate_dst (N := 11) rfl ?_); (try (refine gate_guard (by rfl) ?_; dsimp only)); refine bx_ 11 #[.int .i64 0, .int .i64 0, .int .i64 0, .slice none 0 0, .slice none 0 0] 30 ?_; intro gb584 hg w48 hbox hb; have BK584 := Aside0.mk hbox; have GW584 := gs_ hg; have GE584 := gs_ hg; have NB549_584 := nl_ hg BK549.out; have NB584_549 := ng_ hg BK549.out; have NB550_584 := nl_ hg BK550.out; have NB584_550 := ng_ hg BK550.out; replace HO_43 := rl_ HO_43.out hb; replace HO570 := rl_ HO570.out hb; replace HO573 := rl_ HO573.out hb; replace HO579 := rl_ HO579.out hb; replace HO582 := rl_ HO582.out hb; replace BK549 := bb_ BK549.out hb; replace BK550 := bb_ BK550.out hb; replace HB := hs_ hb; clear hb hbox hg) | ((with_reducible refine gate_dst (N := 12) rfl ?_); (try (refine gate_guard (by rfl) ?_; dsimp only)); refine bx_ 12 #[.int .i64 0, .int .i64 0, .int .i64 0, .slice none 0 0, .slice none 0 0] 30 ?_; intro gb585 hg w49 hbox hb; have BK585 := Aside0.mk hbox; have GW585 := gs_ hg; have GE585 := gs_ hg; have NB549_585 := nl_ hg BK549.out; have NB585_549 := ng_ hg BK549.out; have NB550_585 := nl_ hg BK550.out; have NB585_550 := ng_ hg BK550.out; have NB584_585 := nl_ hg BK584.out; have NB585_584 := ng_ hg BK584.out; replace HO_43 := rl_ HO_43.out hb; replace HO570 := rl_ HO570.out hb; replace HO573 := rl_ HO573.out hb; replace HO579 := rl_ HO579.out hb; replace HO582 := rl_ HO582.out hb; replace BK549 := bb_ BK549.out hb; replace BK550 := bb_ BK550.out hb; replace BK584 := bb_ BK584.out hb; replace HB := hs_ hb; clear hb hbox hg; have hnb50 := NB584_549.out; have hnc50 := NB549_584.out; have hnb51 := NB584_550.out; have hnc51 := NB550_584.out; have hnb52 := NB584_585.out; have hnc52 := NB585_584.out; obtain ⟨hcz53_0, hcz53_1, hcz53_2, hcz53_3, hcz53_4, hfz53_0, hfz53_1, hfz53_2, hfz53_3, hfz53_4⟩ := c5_ BK584.out; obtain ⟨Ao54, co54, eo54⟩ := Kd.R_slice HO570.out; subst eo54; obtain ⟨Ao55, co55, eo55⟩ := Kd.R_slice HO573.out; subst eo55; have hnb56 := NB585_549.out; have hnc56 := NB549_585.out; have hnb57 := NB585_550.out; have hnc57 := NB550_585.out; obtain ⟨hcz58_0, hcz58_1, hcz58_2, hcz58_3, hcz58_4, hfz58_0, hfz58_1, hfz58_2, hfz58_3, hfz58_4⟩ := c5_ BK585.out; obtain ⟨Ao59, co59, eo59⟩ := Kd.R_slice HO579.out; subst eo59; obtain ⟨Ao60, co60, eo60⟩ := Kd.R_slice HO582.out; subst eo60))
         have n0_ : Aside0 (Kd.R (Kd.int .i64) 3 ((((((((((w49.setCell ⟨gb584, 0, none⟩ (.int .i64 t565)).setCell ⟨gb584, 1, none⟩ (.int .i64 t566)).setCell ⟨gb584, 2, none⟩ (.int .i64 t567)).setCell ⟨gb584, 3, none⟩ (.slice Ao54 t568.length co54)).setCell ⟨gb584, 4, none⟩ (.slice Ao55 t571.length co55)).setCell ⟨gb585, 0, none⟩ (.int .i64 t574)).setCell ⟨gb585, 1, none⟩ (.int .i64 t575)).setCell ⟨gb585, 2, none⟩ (.int .i64 t576)).setCell ⟨gb585, 3, none⟩ (.slice Ao59 t577.length co59)).setCell ⟨gb585, 4, none⟩ (.slice Ao60 t580.length co60)) w.heap.size (fun k_ => some k_ ≠ (.slice Ao54 t568.length co54 : Value).ownBlock ∧ some k_ ≠ (.slice Ao55 t571.length co55 : Value).ownBlock ∧ some k_ ≠ (.slice Ao59 t577.length co59 : Value).ownBlock ∧ some k_ ≠ (.slice Ao60 t580.length co60 : Value).ownBlock) (.slice Ao32 y559.length co32) y559) := ⟨rs_ (ty_ (ty_ HO_43.out BK584.out) BK585.out)⟩
         have n1_ : Aside0 (Kd.R (Kd.int .i64) 3 ((((((((((w49.setCell ⟨gb584, 0, none⟩ (.int .i64 t565)).setCell ⟨gb584, 1, none⟩ (.int .i64 t566)).setCell ⟨gb584, 2, none⟩ (.int .i64 t567)).setCell ⟨gb584, 3, none⟩ (.slice Ao54 t568.length co54)).setCell ⟨gb584, 4, none⟩ (.slice Ao55 t571.length co55)).setCell ⟨gb585, 0, none⟩ (.int .i64 t574)).setCell ⟨gb585, 1, none⟩ (.int .i64 t575)).setCell ⟨gb585, 2, none⟩ (.int .i64 t576)).setCell ⟨gb585, 3, none⟩ (.slice Ao59 t577.length co59)).setCell ⟨gb585, 4, none⟩ (.slice Ao60 t580.length co60)) w.heap.size (fun k_ => some k_ ≠ (.slice Ao32 y559.length co32 : Value).ownBlock ∧ some k_ ≠ (.slice Ao55 t571.length co55 : Value).ownBlock ∧ some k_ ≠ (.slice Ao59 t577.length co59 : Value).ownBlock ∧ some k_ ≠ (.slice Ao60 t580.length co60 : Value).ownBlock) (.slice Ao54 t568.length co54) t568) := ⟨rs_ (ty_ (ty_ HO570.out BK584.out) BK585.out)⟩
         have n2_ : Aside0 (Kd.R (Kd.int .i64) 3 ((((((((((w49.setCell ⟨gb584, 0, none⟩ (.int .i64 t565)).setCell ⟨gb584, 1, none⟩ (.int .i64 t566)).setCell ⟨gb584, 2, none⟩ (.int .i64 t567)).setCell ⟨gb584, 3, none⟩ (.slice Ao54 t568.length co54)).setCell ⟨gb584, 4, none⟩ (.slice Ao55 t571.length co55)).setCell ⟨gb585, 0, none⟩ (.int .i64 t574)).setCell ⟨gb585, 1, none⟩ (.int .i64 t575)).setCell ⟨gb585, 2, none⟩ (.int .i64 t576)).setCell ⟨gb585, 3, none⟩ (.slice Ao59 t577.length co59)).setCell ⟨gb585, 4, none⟩ (.slice Ao60 t580.length co60)) w.heap.size (fun k_ => some k_ ≠ (.slice Ao32 y559.length co32 : Value).ownBlock ∧ some k_ ≠ (.slice Ao54 t568.length co54 : Value).ownBlock ∧ some k_ ≠ (.slice Ao59 t577.length co59 : Value).ownBlock ∧ some k_ ≠ (.slice Ao60 t580.length co60 : Value).ownBlock) (.slice Ao55 t571.length co55) t571) := ⟨rs_ (ty_ (ty_ HO573.out BK584.out) BK585.out)⟩
         have n3_ : Aside0 (Kd.R (Kd.int .i64) 3 ((((((((((w49.setCell ⟨gb584, 0, none⟩ (.int .i64 t565)).setCell ⟨gb584, 1, none⟩ (.int .i64 t566)).setCell ⟨gb584, 2, none⟩ (.int .i64 t567)).setCell ⟨gb584, 3, none⟩ (.slice Ao54 t568.length co54)).setCell ⟨gb584, 4, none⟩ (.slice Ao55 t571.length co55)).setCell ⟨gb585, 0, none⟩ (.int .i64 t574)).setCell ⟨gb585, 1, none⟩ (.int .i64 t575)).setCell ⟨gb585, 2, none⟩ (.int .i64 t576)).setCell ⟨gb585, 3, none⟩ (.slice Ao59 t577.length co59)).setCell ⟨gb585, 4, none⟩ (.slice Ao60 t580.length co60)) w.heap.size (fun k_ => some k_ ≠ (.slice Ao32 y559.length co32 : Value).ownBlock ∧ some k_ ≠ (.slice Ao54 t568.length co54 : Value).ownBlock ∧ some k_ ≠ (.slice Ao55 t571.length co55 : Value).ownBlock ∧ some k_ ≠ (.slice Ao60 t580.length co60 : Value).ownBlock) (.slice Ao59 t577.length co59) t577) := ⟨rs_ (ty_ (ty_ HO579.out BK584.out) BK585.out)⟩
         have n4_ : Aside0 (Kd.R (Kd.int .i64) 3 ((((((((((w49.setCell ⟨gb584, 0, none⟩ (.int .i64 t565)).setCell ⟨gb584, 1, none⟩ (.int .i64 t566)).setCell ⟨gb584, 2, none⟩ (.int .i64 t567)).setCell ⟨gb584, 3, none⟩ (.slice Ao54 t568.length co54)).setCell ⟨gb584, 4, none⟩ (.slice Ao55 t571.length co55)).setCell ⟨gb585, 0, none⟩ (.int .i64 t574)).setCell ⟨gb585, 1, none⟩ (.int .i64 t575)).setCell ⟨gb585, 2, none⟩ (.int .i64 t576)).setCell ⟨gb585, 3, none⟩ (.slice Ao59 t577.length co59)).setCell ⟨gb585, 4, none⟩ (.slice Ao60 t580.length co60)) w.heap.size (fun k_ => some k_ ≠ (.slice Ao32 y559.length co32 : Value).ownBlock ∧ some k_ ≠ (.slice Ao54 t568.length co54 : Value).ownBlock ∧ some k_ ≠ (.slice Ao55 t571.length co55 : Value).ownBlock ∧ some k_ ≠ (.slice Ao59 t577.length co59 : Value).ownBlock) (.slice Ao60 t580.length co60) t580) := ⟨rs_ (ty_ (ty_ HO582.out BK584.out) BK585.out)⟩
         have n5_ : Aside0 (((((((((((w49.setCell ⟨gb584, 0, none⟩ (.int .i64 t565)).setCell ⟨gb584, 1, none⟩ (.int .i64 t566)).setCell ⟨gb584, 2, none⟩ (.int .i64 t567)).setCell ⟨gb584, 3, none⟩ (.slice Ao54 t568.length co54)).setCell ⟨gb584, 4, none⟩ (.slice Ao55 t571.length co55)).setCell ⟨gb585, 0, none⟩ (.int .i64 t574)).setCell ⟨gb585, 1, none⟩ (.int .i64 t575)).setCell ⟨gb585, 2, none⟩ (.int .i64 t576)).setCell ⟨gb585, 3, none⟩ (.slice Ao59 t577.length co59)).setCell ⟨gb585, 4, none⟩ (.slice Ao60 t580.length co60)).heap[gb549]? = some (.cells #[.slice A0_0 l0_0.length c0_0, .slice A0_1 l0_1.length c0_1] 25 (0, 0))) := ⟨bf_ BK549.out⟩
         have n6_ : Aside0 (((((((((((w49.setCell ⟨gb584, 0, none⟩ (.int .i64 t565)).setCell ⟨gb584, 1, none⟩ (.int .i64 t566)).setCell ⟨gb584, 2, none⟩ (.int .i64 t567)).setCell ⟨gb584, 3, none⟩ (.slice Ao54 t568.length co54)).setCell ⟨gb584, 4, none⟩ (.slice Ao55 t571.length co55)).setCell ⟨gb585, 0, none⟩ (.int .i64 t574)).setCell ⟨gb585, 1, none⟩ (.int .i64 t575)).setCell ⟨gb585, 2, none⟩ (.int .i64 t576)).setCell ⟨gb585, 3, none⟩ (.slice Ao59 t577.length co59)).setCell ⟨gb585, 4, none⟩ (.slice Ao60 t580.length co60)).heap[gb550]? = some (.cells #[.int .i64 a1_0, .int .i64 a1_1, .int .i64 a1_2, .slice A1_3 l1_3.length c1_3, .slice A1_4 l1_4.length c1_4] 30 (0, 0))) := ⟨bf_ BK550.out⟩
         have n7_ : Aside0 (((((((((((w49.setCell ⟨gb584, 0, none⟩ (.int .i64 t565)).setCell ⟨gb584, 1, none⟩ (.int .i64 t566)).setCell ⟨gb584, 2, none⟩ (.int .i64 t567)).setCell ⟨gb584, 3, none⟩ (.slice Ao54 t568.length co54)).setCell ⟨gb584, 4, none⟩ (.slice Ao55 t571.length co55)).setCell ⟨gb585, 0, none⟩ (.int .i64 t574)).setCell ⟨gb585, 1, none⟩ (.int .i64 t575)).setCell ⟨gb585, 2, none⟩ (.int .i64 t576)).setCell ⟨gb585, 3, none⟩ (.slice Ao59 t577.length co59)).setCell ⟨gb585, 4, none⟩ (.slice Ao60 t580.length co60)).heap[gb584]? = some (.cells #[.int .i64 t565, .int .i64 t566, .int .i64 t567, .slice Ao54 t568.length co54, .slice Ao55 t571.length co55] 30 (0, 0))) := ⟨bp_ BK584.out⟩
         have n8_ : Aside0 (((((((((((w49.setCell ⟨gb584, 0, none⟩ (.int .i64 t565)).setCell ⟨gb584, 1, none⟩ (.int .i64 t566)).setCell ⟨gb584, 2, none⟩ (.int .i64 t567)).setCell ⟨gb584, 3, none⟩ (.slice Ao54 t568.length co54)).setCell ⟨gb584, 4, none⟩ (.slice Ao55 t571.length co55)).setCell ⟨gb585, 0, none⟩ (.int .i64 t574)).setCell ⟨gb585, 1, none⟩ (.int .i64 t575)).setCell ⟨gb585, 2, none⟩ (.int .i64 t576)).setCell ⟨gb585, 3, none⟩ (.slice Ao59 t577.length co59)).setCell ⟨gb585, 4, none⟩ (.slice Ao60 t580.length co60)).heap[gb585]? = some (.cells #[.int .i64 t574, .int .i64 t575, .int .i64 t576, .slice Ao59 t577.length co59, .slice Ao60 t580.length co60] 30 (0, 0))) := ⟨bp_ BK585.out⟩
         have n9_ : Aside0 (Below w.heap.size w ((((((((((w49.setCell ⟨gb584, 0, none⟩ (.int .i64 t565)).setCell ⟨gb584, 1, none⟩ (.int .i64 t566)).setCell ⟨gb584, 2, none⟩ (.int .i64 t567)).setCell ⟨gb584, 3, none⟩ (.slice Ao54 t568.length co54)).setCell ⟨gb584, 4, none⟩ (.slice Ao55 t571.length co55)).setCell ⟨gb585, 0, none⟩ (.int .i64 t574)).setCell ⟨gb585, 1, none⟩ (.int .i64 t575)).setCell ⟨gb585, 2, none⟩ (.int .i64 t576)).setCell ⟨gb585, 3, none⟩ (.slice Ao59 t577.length co59)).setCell ⟨gb585, 4, none⟩ (.slice Ao60 t580.length co60))) := ⟨bl_⟩
         (try clear HO_43)
         (try clear HO570)
         (try clear HO573)
         (try clear HO579)
         (try clear HO582)
         (try clear BK549)
         (try clear BK550)
         (try clear BK584)
         (try clear BK585)
         (try clear HB)
         generalize ((((((((((w49.setCell ⟨gb584, 0, none⟩ (.int .i64 t565)).setCell ⟨gb584, 1, none⟩ (.int .i64 t566)).setCell ⟨gb584, 2, none⟩ (.int .i64 t567)).setCell ⟨gb584, 3, none⟩ (.slice Ao54 t568.length co54)).setCell ⟨gb584, 4, none⟩ (.slice Ao55 t571.length co55)).setCell ⟨gb585, 0, none⟩ (.int .i64 t574)).setCell ⟨gb585, 1, none⟩ (.int .i64 t575)).setCell ⟨gb585, 2, none⟩ (.int .i64 t576)).setCell ⟨gb585, 3, none⟩ (.slice Ao59 t577.length co59)).setCell ⟨gb585, 4, none⟩ (.slice Ao60 t580.length co60)) = w61 at n0_ n1_ n2_ n3_ n4_ n5_ n6_ n7_ n8_ n9_ ⊢
         have HO_43 := n0_
         have HO570 := n1_
         have HO573 := n2_
         have HO579 := n3_
         have HO582 := n4_
         have BK549 := n5_
         have BK550 := n6_
         have BK584 := n7_
         have BK585 := n8_
         have HB := n9_
         clear n0_ n1_ n2_ n3_ n4_ n5_ n6_ n7_ n8_ n9_
         replace HO_43 := Aside0.mk (Kd.R_drew HO_43.out)
         replace HO570 := Aside0.mk (Kd.R_drew HO570.out)
         replace HO573 := Aside0.mk (Kd.R_drew HO573.out)
         replace HO579 := Aside0.mk (Kd.R_drew HO579.out)
         replace HO582 := Aside0.mk (Kd.R_drew HO582.out)
         replace BK549 := Aside0.mk (blk_drew BK549.out)
         replace BK550 := Aside0.mk (blk_drew BK550.out)
         replace BK584 := Aside0.mk (blk_drew BK584.out)
         replace BK585 := Aside0.mk (blk_drew BK585.out)
         replace HB := Aside0.mk (below_drew1 HB.out)
         refine start_ (n := 5) (S := fun w' => w'.cell? ⟨gb549, 0, none⟩ = some (.slice A0_0 l0_0.length c0_0) ∧ w'.cell? ⟨gb549, 1, none⟩ = some (.slice A0_1 l0_1.length c0_1)) (ds := []) #[false, false, false, false, false] (by kernel_rfl) rfl rfl ⟨(blk_cell BK549.out 0).trans rfl, (blk_cell BK549.out 1).trans rfl⟩ (fun hHeld => ?_)
         generalize w61.drew = w62 at HO_43 HO570 HO573 HO579 HO582 BK549 BK550 BK584 BK585 HB hHeld ⊢
         refine pure_ (i := 0) (N := some 66) (v := ?_) (a' := ?_) #[true, false, false, false, false] rfl rfl (by kernel_rfl) (fun _ _ _ h => h) (Or.inl ⟨by rfl, ?_⟩) ?_ ?_
         rotate_left
         ·intro w'
          go_simp
          with_reducible rfl
         rotate_left
         ·simp only [Act.put, List.setIfInBounds_toArray, List.set_cons_zero, List.set_cons_succ, i64_w, i32_w]
          rfl
         refine pure_ (i := 3) (N := some 14) (v := ?_) (a' := ?_) #[true, false, false, true, false] rfl rfl (by kernel_rfl) (fun _ _ _ h => h) (Or.inl ⟨by rfl, ?_⟩) ?_ ?_
         rotate_left
         ·intro w'
          go_simp
          with_reducible rfl
         rotate_left
         ·simp only [Act.put, List.setIfInBounds_toArray, List.set_cons_zero, List.set_cons_succ, i64_w, i32_w]
          rfl
         refine take_ (i := 1) (N := some 67) (v := ?_) (a' := ?_) #[true, true, false, true, false] rfl rfl (by kernel_rfl) (fun _ _ _ h => h) (Or.inl ⟨by rfl, ?_⟩) hHeld ?_ ?_
         rotate_left
         ·rintro w' ⟨s0, s1⟩
          go_simp
          with_reducible rfl
         rotate_left
         ·simp only [Act.put, List.setIfInBounds_toArray, List.set_cons_zero, List.set_cons_succ, i64_w, i32_w]
          rfl
         refine pure_ (i := 2) (N := some 68) (v := ?_) (a' := ?_) #[true, true, true, true, false] rfl rfl (by kernel_rfl) (fun _ _ _ h => h) (Or.inl ⟨by rfl, ?_⟩) ?_ ?_
         rotate_left
         ·intro w'
          go_simp
          with_reducible rfl
         rotate_left
         ·simp only [Act.put, List.setIfInBounds_toArray, List.set_cons_zero, List.set_cons_succ, i64_w, i32_w]
          rfl
         refine pure_ (i := 4) (N := some 15) (v := ?_) (a' := ?_) #[true, true, true, true, true] rfl rfl (by kernel_rfl) (fun _ _ _ h => h) (Or.inl ⟨by rfl, ?_⟩) ?_ ?_
         rotate_left
         ·intro w'
          go_simp
          with_reducible rfl
         rotate_left
         ·simp only [Act.put, List.setIfInBounds_toArray, List.set_cons_zero, List.set_cons_succ, i64_w, i32_w]
          rfl
         refine done_ (by kernel_rfl) ?_
         go_upto_block 2 with (fail)
         go_cut [14] from 14 to 14 (fun v14 wc => ∃ (kq : Nat) (x14_42 : Int), v14 = .int .i64 x14_42 ∧ Aside0 (paymasterlaw14_WithholdStep.j3 kq a2 a3 t583 x14_42 l0_0 l0_1 a1_0 a1_1 a1_2 l1_3 l1_4 t565 t566 t567 t568 t571 t574 t575 t576 t577 t580 = some r) ∧ Aside0 (kq ≤ k2) ∧ Aside0 (Kd.R (Kd.int .i64) 3 wc w.heap.size (fun k_ => some k_ ≠ ((.slice Ao55 t571.length co55) : Value).ownBlock ∧ some k_ ≠ ((.slice Ao59 t577.length co59) : Value).ownBlock ∧ some k_ ≠ ((.slice Ao60 t580.length co60) : Value).ownBlock) (.slice Ao54 t568.length co54) t568) ∧ Aside0 (Kd.R (Kd.int .i64) 3 wc w.heap.size (fun k_ => some k_ ≠ ((.slice Ao54 t568.length co54) : Value).ownBlock ∧ some k_ ≠ ((.slice Ao59 t577.length co59) : Value).ownBlock ∧ some k_ ≠ ((.slice Ao60 t580.length co60) : Value).ownBlock) (.slice Ao55 t571.length co55) t571) ∧ Aside0 (Kd.R (Kd.int .i64) 3 wc w.heap.size (fun k_ => some k_ ≠ ((.slice Ao54 t568.length co54) : Value).ownBlock ∧ some k_ ≠ ((.slice Ao55 t571.length co55) : Value).ownBlock ∧ some k_ ≠ ((.slice Ao60 t580.length co60) : Value).ownBlock) (.slice Ao59 t577.length co59) t577) ∧ Aside0 (Kd.R (Kd.int .i64) 3 wc w.heap.size (fun k_ => some k_ ≠ ((.slice Ao54 t568.length co54) : Value).ownBlock ∧ some k_ ≠ ((.slice Ao55 t571.length co55) : Value).ownBlock ∧ some k_ ≠ ((.slice Ao59 t577.length co59) : Value).ownBlock) (.slice Ao60 t580.length co60) t580) ∧ Aside0 (wc.heap[gb549]? = some (.cells #[(.slice A0_0 l0_0.length c0_0), (.slice A0_1 l0_1.length c0_1)] 25 (0, 0))) ∧ Aside0 (wc.heap[gb550]? = some (.cells #[.int .i64 a1_0, .int .i64 a1_1, .int .i64 a1_2, (.slice A1_3 l1_3.length c1_3), (.slice A1_4 l1_4.length c1_4)] 30 (0, 0))) ∧ Aside0 (wc.heap[gb584]? = some (.cells #[.int .i64 t565, .int .i64 t566, .int .i64 t567, (.slice Ao54 t568.length co54), (.slice Ao55 t571.length co55)] 30 (0, 0))) ∧ Aside0 (wc.heap[gb585]? = some (.cells #[.int .i64 t574, .int .i64 t575, .int .i64 t576, (.slice Ao59 t577.length co59), (.slice Ao60 t580.length co60)] 30 (0, 0))) ∧ Aside0 (Below w.heap.size w wc))
         case first =>
          have H := HC43.out
          clear HC43
          replace H := Option.bind_eq_some_iff.mp H
          obtain ⟨⟨t586, t589⟩, A630, H⟩ := H
          (try dsimp only at H)
          have A63 := Aside0.mk A630
          clear A630
          replace H := Option.bind_eq_some_iff.mp H
          obtain ⟨t592, A640, H⟩ := H
          (try dsimp only at H)
          have A64 := Aside0.mk A640
          clear A640
          by_cases c65 : t592 = true
          ·subst c65
           rw [if_pos rfl] at H
           have HC66 := Aside0.mk H
           clear H
           have hnb67 := NB549_550.out
           have hnc67 := NB550_549.out
           have hnb68 := NB549_584.out
           have hnc68 := NB584_549.out
           have hnb69 := NB549_585.out
           have hnc69 := NB585_549.out
           obtain ⟨hcz70_0, hcz70_1, hfz70_0, hfz70_1⟩ := c2_ BK549.out
           go_upto_region 13 with (first | ((with_reducible refine gate_callee (f := 16) rfl ?_); refine goesL_ (some 71) rfl rfl Try.func16 (by kernel_rfl) rfl #[.agg #[.slice A0_0 l0_0.length c0_0, .slice A0_1 l0_1.length c0_1]] rfl ga_ ?_; (with_reducible refine (paymasterlaw14_ref.calls k2 (fun k_ => k_ < w.heap.size) _ _ l0_0 _ _ l0_1 t586 t589 _ ?side1 ?side2 ?side3 A63.out).mono ?_); (case side1 => exact Kd.V_mk HC0_0.out (Kd.F_below (Kd.C_F k58_heap HR0_0.out) bl_)); (case side2 => exact kc_ (Kd.C_below HR0_1.out HB.out)); (case side3 => exact HC0_1.out); rintro e w71 ⟨v587, v590, rfl, ho0, ho1, hb⟩; refine ⟨_, rfl, ?_⟩; have HO588 := Aside0.mk (Kd.V_lower (Kd.V_mono (ok' := fun k_ => some k_ ≠ (v590 : Value).ownBlock ∧ some k_ ≠ (.slice Ao32 y559.length co32 : Value).ownBlock ∧ some k_ ≠ (.slice Ao54 t568.length co54 : Value).ownBlock ∧ some k_ ≠ (.slice Ao55 t571.length co55 : Value).ownBlock ∧ some k_ ≠ (.slice Ao59 t577.length co59 : Value).ownBlock ∧ some k_ ≠ (.slice Ao60 t580.length co60 : Value).ownBlock ∧ k_ ≠ gb549 ∧ k_ ≠ gb550 ∧ k_ ≠ gb584 ∧ k_ ≠ gb585) ho0 (fun k_ hk_ => ⟨hk_.2, Or.elim hk_.1 (fun hs_ => fun e_ => Nat.not_le.2 hs_ (Kd.R_base HO_43.out k_ e_.symm)) (fun hn_ => (Kd.fresh' (Kd.R_lt (rq_ HO_43.out)) k_ hn_)), Or.elim hk_.1 (fun hs_ => fun e_ => Nat.not_le.2 hs_ (Kd.R_base HO570.out k_ e_.symm)) (fun hn_ => (Kd.fresh' (Kd.R_lt (rq_ HO570.out)) k_ hn_)), Or.elim hk_.1 (fun hs_ => fun e_ => Nat.not_le.2 hs_ (Kd.R_base HO573.out k_ e_.symm)) (fun hn_ => (Kd.fresh' (Kd.R_lt (rq_ HO573.out)) k_ hn_)), Or.elim hk_.1 (fun hs_ => fun e_ => Nat.not_le.2 hs_ (Kd.R_base HO579.out k_ e_.symm)) (fun hn_ => (Kd.fresh' (Kd.R_lt (rq_ HO579.out)) k_ hn_)), Or.elim hk_.1 (fun hs_ => fun e_ => Nat.not_le.2 hs_ (Kd.R_base HO582.out k_ e_.symm)) (fun hn_ => (Kd.fresh' (Kd.R_lt (rq_ HO582.out)) k_ hn_)), Or.elim hk_.1 (fun hs_ => fun e_ => Nat.not_le.2 hs_ (by rw [e_]; exact GW549.out)) (fun hn_ => (Kd.freshB (g := gb549) (o := .cells #[.slice A0_0 l0_0.length c0_0, .slice A0_1 l0_1.length c0_1] 25 (0, 0)) (bq_ BK549.out) k_ hn_)), Or.elim hk_.1 (fun hs_ => fun e_ => Nat.not_le.2 hs_ (by rw [e_]; exact GW550.out)) (fun hn_ => (Kd.freshB (g := gb550) (o := .cells #[.int .i64 a1_0, .int .i64 a1_1, .int .i64 a1_2, .slice A1_3 l1_3.length c1_3, .slice A1_4 l1_4.length c1_4] 30 (0, 0)) (bq_ BK550.out) k_ hn_)), Or.elim hk_.1 (fun hs_ => fun e_ => Nat.not_le.2 hs_ (by rw [e_]; exact GW584.out)) (fun hn_ => (Kd.freshB (g := gb584) (o := .cells #[.int .i64 t565, .int .i64 t566, .int .i64 t567, .slice Ao54 t568.length co54, .slice Ao55 t571.length co55] 30 (0, 0)) (bq_ BK584.out) k_ hn_)), Or.elim hk_.1 (fun hs_ => fun e_ => Nat.not_le.2 hs_ (by rw [e_]; exact GW585.out)) (fun hn_ => (Kd.freshB (g := gb585) (o := .cells #[.int .i64 t574, .int .i64 t575, .int .i64 t576, .slice Ao59 t577.length co59, .slice Ao60 t580.length co60] 30 (0, 0)) (bq_ BK585.out) k_ hn_))⟩)) (below_size bl_)); have HO591 := Aside0.mk (Kd.R_lower (Kd.R_mono (ok' := fun k_ => True) ho1 (fun _ hk_ => trivial)) (below_size bl_)); replace HO_43 := rl_ HO_43.out hb; replace HO570 := rl_ HO570.out hb; replace HO573 := rl_ HO573.out hb; replace HO579 := rl_ HO579.out hb; replace HO582 := rl_ HO582.out hb; replace BK549 := bb_ BK549.out hb; replace BK550 := bb_ BK550.out hb; replace BK584 := bb_ BK584.out hb; replace BK585 := bb_ BK585.out hb; replace HB := hs_ hb; (try clear hb); (try clear hb2); (try clear hk); (try clear hi); (try clear ho0); (try clear ho1); obtain ⟨Ao72, co72, eo72⟩ := Kd.V_slice HO588.out; subst eo72; obtain ⟨Ao73, co73, eo73⟩ := Kd.R_slice HO591.out; subst eo73) | ((with_reducible refine gate_callee (f := 15) rfl ?_); refine goesL_ (some 72) rfl rfl Try.func15 (by kernel_rfl) rfl #[.agg #[.slice Ao72 t586.length co72, .slice Ao73 t589.length co73]] rfl ga_ ?_; (with_reducible refine (paymasterref14_Right.calls k2 _ _ t586 _ _ t589 true _ ?side1 ?side2 ?side3 ?side4 A64.out).mono ?_); (case side1 => exact kc_ (Kd.V_reads' HO588.out).2.2); (case side2 => exact (Kd.V_reads' HO588.out).2.1); (case side3 => exact kc_ (Kd.R_reads' HO591.out).2.2); (case side4 => exact (Kd.R_reads' HO591.out).2.1); rintro e w74 ⟨rfl, hb⟩; refine ⟨_, rfl, ?_⟩; replace HO_43 := rl_ HO_43.out hb; replace HO570 := rl_ HO570.out hb; replace HO573 := rl_ HO573.out hb; replace HO579 := rl_ HO579.out hb; replace HO582 := rl_ HO582.out hb; replace HO588 := Aside0.mk (Kd.V_below (by refine kv_ ?_; exact HO588.out) hb); replace HO591 := rl_ HO591.out hb; replace BK549 := bb_ BK549.out hb; replace BK550 := bb_ BK550.out hb; replace BK584 := bb_ BK584.out hb; replace BK585 := bb_ BK585.out hb; replace HB := hs_ hb; (try clear hb); (try clear hb2); (try clear hk); (try clear hi)))
           (try simp only [Act.put, List.setIfInBounds_toArray, List.set_cons_zero, List.set_cons_succ])
           go_cut [74] from 74 to 74 (fun v74 wc => ∃ (kq : Nat) (x74_65 : Bool), v74 = .bool x74_65 ∧ Aside0 (paymasterlaw14_WithholdStep.j2 kq a2 a3 t583 0 (l0_1.length : Int) x74_65 l0_0 l0_1 a1_0 a1_1 a1_2 l1_3 l1_4 t565 t566 t567 t568 t571 t574 t575 t576 t577 t580 = some r) ∧ Aside0 (kq ≤ k2) ∧ Aside0 (Kd.R (Kd.int .i64) 3 wc w.heap.size (fun k_ => some k_ ≠ ((.slice Ao55 t571.length co55) : Value).ownBlock ∧ some k_ ≠ ((.slice Ao59 t577.length co59) : Value).ownBlock ∧ some k_ ≠ ((.slice Ao60 t580.length co60) : Value).ownBlock) (.slice Ao54 t568.length co54) t568) ∧ Aside0 (Kd.R (Kd.int .i64) 3 wc w.heap.size (fun k_ => some k_ ≠ ((.slice Ao54 t568.length co54) : Value).ownBlock ∧ some k_ ≠ ((.slice Ao59 t577.length co59) : Value).ownBlock ∧ some k_ ≠ ((.slice Ao60 t580.length co60) : Value).ownBlock) (.slice Ao55 t571.length co55) t571) ∧ Aside0 (Kd.R (Kd.int .i64) 3 wc w.heap.size (fun k_ => some k_ ≠ ((.slice Ao54 t568.length co54) : Value).ownBlock ∧ some k_ ≠ ((.slice Ao55 t571.length co55) : Value).ownBlock ∧ some k_ ≠ ((.slice Ao60 t580.length co60) : Value).ownBlock) (.slice Ao59 t577.length co59) t577) ∧ Aside0 (Kd.R (Kd.int .i64) 3 wc w.heap.size (fun k_ => some k_ ≠ ((.slice Ao54 t568.length co54) : Value).ownBlock ∧ some k_ ≠ ((.slice Ao55 t571.length co55) : Value).ownBlock ∧ some k_ ≠ ((.slice Ao59 t577.length co59) : Value).ownBlock) (.slice Ao60 t580.length co60) t580) ∧ Aside0 (wc.heap[gb549]? = some (.cells #[(.slice A0_0 l0_0.length c0_0), (.slice A0_1 l0_1.length c0_1)] 25 (0, 0))) ∧ Aside0 (wc.heap[gb550]? = some (.cells #[.int .i64 a1_0, .int .i64 a1_1, .int .i64 a1_2, (.slice A1_3 l1_3.length c1_3), (.slice A1_4 l1_4.length c1_4)] 30 (0, 0))) ∧ Aside0 (wc.heap[gb584]? = some (.cells #[.int .i64 t565, .int .i64 t566, .int .i64 t567, (.slice Ao54 t568.length co54), (.slice Ao55 t571.length co55)] 30 (0, 0))) ∧ Aside0 (wc.heap[gb585]? = some (.cells #[.int .i64 t574, .int .i64 t575, .int .i64 t576, (.slice Ao59 t577.length co59), (.slice Ao60 t580.length co60)] 30 (0, 0))) ∧ Aside0 (Below w.heap.size w wc))
           case first =>
            have H := HC66.out
            clear HC66
            replace H := Option.bind_eq_some_iff.mp H
            obtain ⟨t593, A750, H⟩ := H
            (try dsimp only at H)
            have A75 := Aside0.mk A750
            clear A750
            by_cases c76 : t593 = true
            ·subst c76
             rw [if_pos rfl] at H
             have H' := Aside0.mk H
             clear H
             have hnb77 := NB550_549.out
             have hnc77 := NB549_550.out
             have hnb78 := NB550_584.out
             have hnc78 := NB584_550.out
             have hnb79 := NB550_585.out
             have hnc79 := NB585_550.out
             obtain ⟨hcz80_0, hcz80_1, hcz80_2, hcz80_3, hcz80_4, hfz80_0, hfz80_1, hfz80_2, hfz80_3, hfz80_4⟩ := c5_ BK550.out
             go_wp2_with (first | ((with_reducible refine gate_callee (f := 17) rfl ?_); refine goesL_ (some 77) rfl rfl Try.func17 (by kernel_rfl) rfl #[.int .i64 a1_0] rfl ga_ ?_; (with_reducible refine (paymasterref14_Far.calls a1_0 true _ A75.out).mono ?_); rintro e w' ⟨rfl, ⟨nd, rfl⟩⟩; refine ⟨_, rfl, ?_⟩))
             go_meet
             case rel => exact ⟨_, (true), sm_, H', ⟨by have := HJ4.out; have := HK2.out; first | omega | exact Nat.le_refl _⟩, ⟨rs_ HO570.out⟩, ⟨rs_ HO573.out⟩, ⟨rs_ HO579.out⟩, ⟨rs_ HO582.out⟩, ⟨bq_ BK549.out⟩, ⟨bq_ BK550.out⟩, ⟨bq_ BK584.out⟩, ⟨bq_ BK585.out⟩, ⟨bl_⟩⟩
            ·replace c76 := Bool.eq_false_iff.mpr c76
             subst c76
             rw [if_neg (show ¬ (false = true) by decide)] at H
             replace H := Option.bind_eq_some_iff.mp H
             obtain ⟨t594, A810, H⟩ := H
             (try dsimp only at H)
             have A81 := Aside0.mk A810
             clear A810
             by_cases c82 : t594 = true
             ·subst c82
              rw [if_pos rfl] at H
              have H' := Aside0.mk H
              clear H
              have hnb83 := NB550_549.out
              have hnc83 := NB549_550.out
              have hnb84 := NB550_584.out
              have hnc84 := NB584_550.out
              have hnb85 := NB550_585.out
              have hnc85 := NB585_550.out
              obtain ⟨hcz86_0, hcz86_1, hcz86_2, hcz86_3, hcz86_4, hfz86_0, hfz86_1, hfz86_2, hfz86_3, hfz86_4⟩ := c5_ BK550.out
              go_wp2_with (first | ((with_reducible refine gate_callee (f := 17) rfl ?_); refine goesL_ (some 77) rfl rfl Try.func17 (by kernel_rfl) rfl #[.int .i64 a1_0] rfl ga_ ?_; (with_reducible refine (paymasterref14_Far.calls a1_0 false _ A75.out).mono ?_); rintro e w' ⟨rfl, ⟨nd, rfl⟩⟩; refine ⟨_, rfl, ?_⟩) | (go_at_call 17; (with_reducible refine (paymasterref14_Far.calls a2 true _ A81.out).mono ?_); rintro e w' ⟨rfl, ⟨nd, rfl⟩⟩))
              go_meet
              case rel => exact ⟨_, (true), sm_, H', ⟨by have := HJ4.out; have := HK2.out; first | omega | exact Nat.le_refl _⟩, ⟨rs_ HO570.out⟩, ⟨rs_ HO573.out⟩, ⟨rs_ HO579.out⟩, ⟨rs_ HO582.out⟩, ⟨bq_ BK549.out⟩, ⟨bq_ BK550.out⟩, ⟨bq_ BK584.out⟩, ⟨bq_ BK585.out⟩, ⟨bl_⟩⟩
             ·replace c82 := Bool.eq_false_iff.mpr c82
              subst c82
              rw [if_neg (show ¬ (false = true) by decide)] at H
              replace H := Option.bind_eq_some_iff.mp H
              obtain ⟨t595, A870, H⟩ := H
              (try dsimp only at H)
              have A87 := Aside0.mk A870
              clear A870
              by_cases c88 : t595 = true
              ·subst c88
               rw [if_pos rfl] at H
               have H' := Aside0.mk H
               clear H
               have hnb89 := NB550_549.out
               have hnc89 := NB549_550.out
               have hnb90 := NB550_584.out
               have hnc90 := NB584_550.out
               have hnb91 := NB550_585.out
               have hnc91 := NB585_550.out
               obtain ⟨hcz92_0, hcz92_1, hcz92_2, hcz92_3, hcz92_4, hfz92_0, hfz92_1, hfz92_2, hfz92_3, hfz92_4⟩ := c5_ BK550.out
               go_wp2_with (first | ((with_reducible refine gate_callee (f := 17) rfl ?_); refine goesL_ (some 77) rfl rfl Try.func17 (by kernel_rfl) rfl #[.int .i64 a1_0] rfl ga_ ?_; (with_reducible refine (paymasterref14_Far.calls a1_0 false _ A75.out).mono ?_); rintro e w' ⟨rfl, ⟨nd, rfl⟩⟩; refine ⟨_, rfl, ?_⟩) | (go_at_call 17; (with_reducible refine (paymasterref14_Far.calls a2 false _ A81.out).mono ?_); rintro e w' ⟨rfl, ⟨nd, rfl⟩⟩) | (go_at_call 17; (with_reducible refine (paymasterref14_Far.calls a1_1 true _ A87.out).mono ?_); rintro e w' ⟨rfl, ⟨nd, rfl⟩⟩))
               go_meet
               case rel => exact ⟨_, (true), sm_, H', ⟨by have := HJ4.out; have := HK2.out; first | omega | exact Nat.le_refl _⟩, ⟨rs_ HO570.out⟩, ⟨rs_ HO573.out⟩, ⟨rs_ HO579.out⟩, ⟨rs_ HO582.out⟩, ⟨bq_ BK549.out⟩, ⟨bq_ BK550.out⟩, ⟨bq_ BK584.out⟩, ⟨bq_ BK585.out⟩, ⟨bl_⟩⟩
              ·replace c88 := Bool.eq_false_iff.mpr c88
               subst c88
               rw [if_neg (show ¬ (false = true) by decide)] at H
               replace H := Option.bind_eq_some_iff.mp H
               obtain ⟨t596, A930, H⟩ := H
               (try dsimp only at H)
               have A93 := Aside0.mk A930
               clear A930
               by_cases c94 : t596 = true
               ·subst c94
                rw [if_pos rfl] at H
                have H' := Aside0.mk H
                clear H
                have hnb95 := NB550_549.out
                have hnc95 := NB549_550.out
                have hnb96 := NB550_584.out
                have hnc96 := NB584_550.out
                have hnb97 := NB550_585.out
                have hnc97 := NB585_550.out
                obtain ⟨hcz98_0, hcz98_1, hcz98_2, hcz98_3, hcz98_4, hfz98_0, hfz98_1, hfz98_2, hfz98_3, hfz98_4⟩ := c5_ BK550.out
                go_wp2_with (first | ((with_reducible refine gate_callee (f := 17) rfl ?_); refine goesL_ (some 77) rfl rfl Try.func17 (by kernel_rfl) rfl #[.int .i64 a1_0] rfl ga_ ?_; (with_reducible refine (paymasterref14_Far.calls a1_0 false _ A75.out).mono ?_); rintro e w' ⟨rfl, ⟨nd, rfl⟩⟩; refine ⟨_, rfl, ?_⟩) | (go_at_call 17; (with_reducible refine (paymasterref14_Far.calls a2 false _ A81.out).mono ?_); rintro e w' ⟨rfl, ⟨nd, rfl⟩⟩) | (go_at_call 17; (with_reducible refine (paymasterref14_Far.calls a1_1 false _ A87.out).mono ?_); rintro e w' ⟨rfl, ⟨nd, rfl⟩⟩) | (go_at_call 17; (with_reducible refine (paymasterref14_Far.calls a3 true _ A93.out).mono ?_); rintro e w' ⟨rfl, ⟨nd, rfl⟩⟩))
                go_meet
                case rel => exact ⟨_, (true), sm_, H', ⟨by have := HJ4.out; have := HK2.out; first | omega | exact Nat.le_refl _⟩, ⟨rs_ HO570.out⟩, ⟨rs_ HO573.out⟩, ⟨rs_ HO579.out⟩, ⟨rs_ HO582.out⟩, ⟨bq_ BK549.out⟩, ⟨bq_ BK550.out⟩, ⟨bq_ BK584.out⟩, ⟨bq_ BK585.out⟩, ⟨bl_⟩⟩
               ·replace c94 := Bool.eq_false_iff.mpr c94
                subst c94
                rw [if_neg (show ¬ (false = true) by decide)] at H
                replace H := Option.bind_eq_some_iff.mp H
                obtain ⟨t597, A990, H⟩ := H
                (try dsimp only at H)
                have A99 := Aside0.mk A990
                clear A990
                by_cases c100 : t597 = true
                ·subst c100
                 rw [if_pos rfl] at H
                 have H' := Aside0.mk H
                 clear H
                 have hnb101 := NB550_549.out
                 have hnc101 := NB549_550.out
                 have hnb102 := NB550_584.out
                 have hnc102 := NB584_550.out
                 have hnb103 := NB550_585.out
                 have hnc103 := NB585_550.out
                 obtain ⟨hcz104_0, hcz104_1, hcz104_2, hcz104_3, hcz104_4, hfz104_0, hfz104_1, hfz104_2, hfz104_3, hfz104_4⟩ := c5_ BK550.out
                 go_wp2_with (first | ((with_reducible refine gate_callee (f := 17) rfl ?_); refine goesL_ (some 77) rfl rfl Try.func17 (by kernel_rfl) rfl #[.int .i64 a1_0] rfl ga_ ?_; (with_reducible refine (paymasterref14_Far.calls a1_0 false _ A75.out).mono ?_); rintro e w' ⟨rfl, ⟨nd, rfl⟩⟩; refine ⟨_, rfl, ?_⟩) | (go_at_call 17; (with_reducible refine (paymasterref14_Far.calls a2 false _ A81.out).mono ?_); rintro e w' ⟨rfl, ⟨nd, rfl⟩⟩) | (go_at_call 17; (with_reducible refine (paymasterref14_Far.calls a1_1 false _ A87.out).mono ?_); rintro e w' ⟨rfl, ⟨nd, rfl⟩⟩) | (go_at_call 17; (with_reducible refine (paymasterref14_Far.calls a3 false _ A93.out).mono ?_); rintro e w' ⟨rfl, ⟨nd, rfl⟩⟩) | (go_at_call 17; (with_reducible refine (paymasterref14_Far.calls (wrap64 (a1_0 + a2)) true _ A99.out).mono ?_); rintro e w' ⟨rfl, ⟨nd, rfl⟩⟩))
                 go_meet
                 case rel => exact ⟨_, (true), sm_, H', ⟨by have := HJ4.out; have := HK2.out; first | omega | exact Nat.le_refl _⟩, ⟨rs_ HO570.out⟩, ⟨rs_ HO573.out⟩, ⟨rs_ HO579.out⟩, ⟨rs_ HO582.out⟩, ⟨bq_ BK549.out⟩, ⟨bq_ BK550.out⟩, ⟨bq_ BK584.out⟩, ⟨bq_ BK585.out⟩, ⟨bl_⟩⟩
                ·replace c100 := Bool.eq_false_iff.mpr c100
                 subst c100
                 rw [if_neg (show ¬ (false = true) by decide)] at H
                 replace H := Option.bind_eq_some_iff.mp H
                 obtain ⟨t598, A1050, H⟩ := H
                 (try dsimp only at H)
                 have A105 := Aside0.mk A1050
                 clear A1050
                 have H' := Aside0.mk H
                 clear H
                 have hnb106 := NB550_549.out
                 have hnc106 := NB549_550.out
                 have hnb107 := NB550_584.out
                 have hnc107 := NB584_550.out
                 have hnb108 := NB550_585.out
                 have hnc108 := NB585_550.out
                 obtain ⟨hcz109_0, hcz109_1, hcz109_2, hcz109_3, hcz109_4, hfz109_0, hfz109_1, hfz109_2, hfz109_3, hfz109_4⟩ := c5_ BK550.out
                 go_wp2_with (first | ((with_reducible refine gate_callee (f := 17) rfl ?_); refine goesL_ (some 77) rfl rfl Try.func17 (by kernel_rfl) rfl #[.int .i64 a1_0] rfl ga_ ?_; (with_reducible refine (paymasterref14_Far.calls a1_0 false _ A75.out).mono ?_); rintro e w' ⟨rfl, ⟨nd, rfl⟩⟩; refine ⟨_, rfl, ?_⟩) | (go_at_call 17; (with_reducible refine (paymasterref14_Far.calls a2 false _ A81.out).mono ?_); rintro e w' ⟨rfl, ⟨nd, rfl⟩⟩) | (go_at_call 17; (with_reducible refine (paymasterref14_Far.calls a1_1 false _ A87.out).mono ?_); rintro e w' ⟨rfl, ⟨nd, rfl⟩⟩) | (go_at_call 17; (with_reducible refine (paymasterref14_Far.calls a3 false _ A93.out).mono ?_); rintro e w' ⟨rfl, ⟨nd, rfl⟩⟩) | (go_at_call 17; (with_reducible refine (paymasterref14_Far.calls (wrap64 (a1_0 + a2)) false _ A99.out).mono ?_); rintro e w' ⟨rfl, ⟨nd, rfl⟩⟩) | (go_at_call 17; (with_reducible refine (paymasterref14_Far.calls (wrap64 (a1_1 + a3)) t598 _ A105.out).mono ?_); rintro e w' ⟨rfl, ⟨nd, rfl⟩⟩))
                 go_meet
                 case rel => exact ⟨_, (t598), sm_, H', ⟨by have := HJ4.out; have := HK2.out; first | omega | exact Nat.le_refl _⟩, ⟨rs_ HO570.out⟩, ⟨rs_ HO573.out⟩, ⟨rs_ HO579.out⟩, ⟨rs_ HO582.out⟩, ⟨bq_ BK549.out⟩, ⟨bq_ BK550.out⟩, ⟨bq_ BK584.out⟩, ⟨bq_ BK585.out⟩, ⟨bl_⟩⟩
           case rest =>
            clear HC66
            try clear c22; try clear c25; try clear c26; try clear c33; try clear c33b0; try clear c65; try clear hcz45_0; try clear hcz45_1; try clear hcz46_0; try clear hcz46_1; try clear hcz46_2; try clear hcz46_3; try clear hcz46_4; try clear hcz53_0; try clear hcz53_1; try clear hcz53_2; try clear hcz53_3; try clear hcz53_4; try clear hcz58_0; try clear hcz58_1; try clear hcz58_2; try clear hcz58_3
            try clear hcz58_4; try clear hcz70_0; try clear hcz70_1; try clear hfz45_0; try clear hfz45_1; try clear hfz46_0; try clear hfz46_1; try clear hfz46_2; try clear hfz46_3; try clear hfz46_4; try clear hfz53_0; try clear hfz53_1; try clear hfz53_2; try clear hfz53_3; try clear hfz53_4; try clear hfz58_0; try clear hfz58_1; try clear hfz58_2; try clear hfz58_3; try clear hfz58_4; try clear hfz70_0
            try clear hfz70_1
            obtain ⟨kq, x74_65, rfl, HA, HJ65, HO_585003, HO_585004, HO_586003, HO_586004, BK549, BK550, BK584, BK585, HB⟩ := hcut
            cases kq with
            | zero => exact absurd HA.out (by simp [paymasterlaw14_WithholdStep.j2])
            | succ kj65 =>
             have H := HA.out
             clear HA
             simp only [paymasterlaw14_WithholdStep.j2] at H
             by_cases c110 : x74_65 = true
             ·subst c110
              rw [if_pos rfl] at H
              have H' := Aside0.mk H
              clear H
              go_wp2
              go_meet
              case rel => exact ⟨_, (3), sm_, H', ⟨by have := HJ4.out; have := HK2.out; have := HJ65.out; first | omega | exact Nat.le_refl _⟩, ⟨rs_ HO_585003.out⟩, ⟨rs_ HO_585004.out⟩, ⟨rs_ HO_586003.out⟩, ⟨rs_ HO_586004.out⟩, ⟨bq_ BK549.out⟩, ⟨bq_ BK550.out⟩, ⟨bq_ BK584.out⟩, ⟨bq_ BK585.out⟩, ⟨bl_⟩⟩
             ·replace c110 := Bool.eq_false_iff.mpr c110
              subst c110
              rw [if_neg (show ¬ (false = true) by decide)] at H
              by_cases c111 : (l1_3.length : Int) = 0
              ·rw [if_pos c111] at H
               have c111b0 : ((l1_3.length : Int) == 0) = true := beq_iff_eq.mpr c111
               have c111b1 : ((l1_3.length : Int) != 0) = false := bne_eq_false_iff_eq.mpr c111
               clear c111
               by_cases c112 : (l1_4.length : Int) = 0
               ·rw [if_pos c112] at H
                have c112b0 : ((l1_4.length : Int) == 0) = true := beq_iff_eq.mpr c112
                have c112b1 : ((l1_4.length : Int) != 0) = false := bne_eq_false_iff_eq.mpr c112
                clear c112
                have H' := Aside0.mk H
                clear H
                have hnb113 := NB550_549.out
                have hnc113 := NB549_550.out
                have hnb114 := NB550_584.out
                have hnc114 := NB584_550.out
                have hnb115 := NB550_585.out
                have hnc115 := NB585_550.out
                obtain ⟨hcz116_0, hcz116_1, hcz116_2, hcz116_3, hcz116_4, hfz116_0, hfz116_1, hfz116_2, hfz116_3, hfz116_4⟩ := c5_ BK550.out
                go_wp2
                go_meet
                case rel => exact ⟨_, (0), sm_, H', ⟨by have := HJ4.out; have := HK2.out; have := HJ65.out; first | omega | exact Nat.le_refl _⟩, ⟨rs_ HO_585003.out⟩, ⟨rs_ HO_585004.out⟩, ⟨rs_ HO_586003.out⟩, ⟨rs_ HO_586004.out⟩, ⟨bq_ BK549.out⟩, ⟨bq_ BK550.out⟩, ⟨bq_ BK584.out⟩, ⟨bq_ BK585.out⟩, ⟨bl_⟩⟩
               ·rw [if_neg c112] at H
                have c112b0 : ((l1_4.length : Int) == 0) = false := beq_eq_false_iff_ne.mpr c112
                have c112b1 : ((l1_4.length : Int) != 0) = true := bne_iff_ne.mpr c112
                have c112b2 : ¬ (l1_4 = []) := fun h_ => c112 (by rw [h_]; rfl)
                by_cases c117 : (l1_4.length : Int) = (l0_1.length : Int)
                ·rw [if_pos c117] at H
                 have c117b0 : ((l1_4.length : Int) == (l0_1.length : Int)) = true := beq_iff_eq.mpr c117
                 have c117b1 : ((l1_4.length : Int) != (l0_1.length : Int)) = false := bne_eq_false_iff_eq.mpr c117
                 have c117b2 : (l1_4.length == l0_1.length) = true := by first | simpa using c117 | (simp at c117 ⊢; omega)
                 clear c117
                 have H' := Aside0.mk H
                 clear H
                 have hnb118 := NB550_549.out
                 have hnc118 := NB549_550.out
                 have hnb119 := NB550_584.out
                 have hnc119 := NB584_550.out
                 have hnb120 := NB550_585.out
                 have hnc120 := NB585_550.out
                 obtain ⟨hcz121_0, hcz121_1, hcz121_2, hcz121_3, hcz121_4, hfz121_0, hfz121_1, hfz121_2, hfz121_3, hfz121_4⟩ := c5_ BK550.out
                 go_wp2
                 go_meet
                 case rel => exact ⟨_, (0), sm_, H', ⟨by have := HJ4.out; have := HK2.out; have := HJ65.out; first | omega | exact Nat.le_refl _⟩, ⟨rs_ HO_585003.out⟩, ⟨rs_ HO_585004.out⟩, ⟨rs_ HO_586003.out⟩, ⟨rs_ HO_586004.out⟩, ⟨bq_ BK549.out⟩, ⟨bq_ BK550.out⟩, ⟨bq_ BK584.out⟩, ⟨bq_ BK585.out⟩, ⟨bl_⟩⟩
                ·rw [if_neg c117] at H
                 have c117b0 : ((l1_4.length : Int) == (l0_1.length : Int)) = false := beq_eq_false_iff_ne.mpr c117
                 have c117b1 : ((l1_4.length : Int) != (l0_1.length : Int)) = true := bne_iff_ne.mpr c117
                 have c117b2 : (l1_4.length == l0_1.length) = false := by first | simpa using c117 | (simp at c117 ⊢; omega)
                 have H' := Aside0.mk H
                 clear H
                 have hnb122 := NB550_549.out
                 have hnc122 := NB549_550.out
                 have hnb123 := NB550_584.out
                 have hnc123 := NB584_550.out
                 have hnb124 := NB550_585.out
                 have hnc124 := NB585_550.out
                 obtain ⟨hcz125_0, hcz125_1, hcz125_2, hcz125_3, hcz125_4, hfz125_0, hfz125_1, hfz125_2, hfz125_3, hfz125_4⟩ := c5_ BK550.out
                 go_wp2
                 go_meet
                 case rel => exact ⟨_, (1), sm_, H', ⟨by have := HJ4.out; have := HK2.out; have := HJ65.out; first | omega | exact Nat.le_refl _⟩, ⟨rs_ HO_585003.out⟩, ⟨rs_ HO_585004.out⟩, ⟨rs_ HO_586003.out⟩, ⟨rs_ HO_586004.out⟩, ⟨bq_ BK549.out⟩, ⟨bq_ BK550.out⟩, ⟨bq_ BK584.out⟩, ⟨bq_ BK585.out⟩, ⟨bl_⟩⟩
              ·rw [if_neg c111] at H
               have c111b0 : ((l1_3.length : Int) == 0) = false := beq_eq_false_iff_ne.mpr c111
               have c111b1 : ((l1_3.length : Int) != 0) = true := bne_iff_ne.mpr c111
               have c111b2 : ¬ (l1_3 = []) := fun h_ => c111 (by rw [h_]; rfl)
               by_cases c126 : (l1_3.length : Int) = (l0_1.length : Int)
               ·rw [if_pos c126] at H
                have c126b0 : ((l1_3.length : Int) == (l0_1.length : Int)) = true := beq_iff_eq.mpr c126
                have c126b1 : ((l1_3.length : Int) != (l0_1.length : Int)) = false := bne_eq_false_iff_eq.mpr c126
                have c126b2 : (l1_3.length == l0_1.length) = true := by first | simpa using c126 | (simp at c126 ⊢; omega)
                clear c126
                by_cases c127 : (l1_4.length : Int) = 0
                ·rw [if_pos c127] at H
                 have c127b0 : ((l1_4.length : Int) == 0) = true := beq_iff_eq.mpr c127
                 have c127b1 : ((l1_4.length : Int) != 0) = false := bne_eq_false_iff_eq.mpr c127
                 clear c127
                 have H' := Aside0.mk H
                 clear H
                 have hnb128 := NB550_549.out
                 have hnc128 := NB549_550.out
                 have hnb129 := NB550_584.out
                 have hnc129 := NB584_550.out
                 have hnb130 := NB550_585.out
                 have hnc130 := NB585_550.out
                 obtain ⟨hcz131_0, hcz131_1, hcz131_2, hcz131_3, hcz131_4, hfz131_0, hfz131_1, hfz131_2, hfz131_3, hfz131_4⟩ := c5_ BK550.out
                 go_wp2
                 go_meet
                 case rel => exact ⟨_, (0), sm_, H', ⟨by have := HJ4.out; have := HK2.out; have := HJ65.out; first | omega | exact Nat.le_refl _⟩, ⟨rs_ HO_585003.out⟩, ⟨rs_ HO_585004.out⟩, ⟨rs_ HO_586003.out⟩, ⟨rs_ HO_586004.out⟩, ⟨bq_ BK549.out⟩, ⟨bq_ BK550.out⟩, ⟨bq_ BK584.out⟩, ⟨bq_ BK585.out⟩, ⟨bl_⟩⟩
                ·rw [if_neg c127] at H
                 have c127b0 : ((l1_4.length : Int) == 0) = false := beq_eq_false_iff_ne.mpr c127
                 have c127b1 : ((l1_4.length : Int) != 0) = true := bne_iff_ne.mpr c127
                 have c127b2 : ¬ (l1_4 = []) := fun h_ => c127 (by rw [h_]; rfl)
                 by_cases c132 : (l1_4.length : Int) = (l0_1.length : Int)
                 ·rw [if_pos c132] at H
                  have c132b0 : ((l1_4.length : Int) == (l0_1.length : Int)) = true := beq_iff_eq.mpr c132
                  have c132b1 : ((l1_4.length : Int) != (l0_1.length : Int)) = false := bne_eq_false_iff_eq.mpr c132
                  have c132b2 : (l1_4.length == l0_1.length) = true := by first | simpa using c132 | (simp at c132 ⊢; omega)
                  clear c132
                  have H' := Aside0.mk H
                  clear H
                  have hnb133 := NB550_549.out
                  have hnc133 := NB549_550.out
                  have hnb134 := NB550_584.out
                  have hnc134 := NB584_550.out
                  have hnb135 := NB550_585.out
                  have hnc135 := NB585_550.out
                  obtain ⟨hcz136_0, hcz136_1, hcz136_2, hcz136_3, hcz136_4, hfz136_0, hfz136_1, hfz136_2, hfz136_3, hfz136_4⟩ := c5_ BK550.out
                  go_wp2
                  go_meet
                  case rel => exact ⟨_, (0), sm_, H', ⟨by have := HJ4.out; have := HK2.out; have := HJ65.out; first | omega | exact Nat.le_refl _⟩, ⟨rs_ HO_585003.out⟩, ⟨rs_ HO_585004.out⟩, ⟨rs_ HO_586003.out⟩, ⟨rs_ HO_586004.out⟩, ⟨bq_ BK549.out⟩, ⟨bq_ BK550.out⟩, ⟨bq_ BK584.out⟩, ⟨bq_ BK585.out⟩, ⟨bl_⟩⟩
                 ·rw [if_neg c132] at H
                  have c132b0 : ((l1_4.length : Int) == (l0_1.length : Int)) = false := beq_eq_false_iff_ne.mpr c132
                  have c132b1 : ((l1_4.length : Int) != (l0_1.length : Int)) = true := bne_iff_ne.mpr c132
                  have c132b2 : (l1_4.length == l0_1.length) = false := by first | simpa using c132 | (simp at c132 ⊢; omega)
                  have H' := Aside0.mk H
                  clear H
                  have hnb137 := NB550_549.out
                  have hnc137 := NB549_550.out
                  have hnb138 := NB550_584.out
                  have hnc138 := NB584_550.out
                  have hnb139 := NB550_585.out
                  have hnc139 := NB585_550.out
                  obtain ⟨hcz140_0, hcz140_1, hcz140_2, hcz140_3, hcz140_4, hfz140_0, hfz140_1, hfz140_2, hfz140_3, hfz140_4⟩ := c5_ BK550.out
                  go_wp2
                  go_meet
                  case rel => exact ⟨_, (1), sm_, H', ⟨by have := HJ4.out; have := HK2.out; have := HJ65.out; first | omega | exact Nat.le_refl _⟩, ⟨rs_ HO_585003.out⟩, ⟨rs_ HO_585004.out⟩, ⟨rs_ HO_586003.out⟩, ⟨rs_ HO_586004.out⟩, ⟨bq_ BK549.out⟩, ⟨bq_ BK550.out⟩, ⟨bq_ BK584.out⟩, ⟨bq_ BK585.out⟩, ⟨bl_⟩⟩
               ·rw [if_neg c126] at H
                have c126b0 : ((l1_3.length : Int) == (l0_1.length : Int)) = false := beq_eq_false_iff_ne.mpr c126
                have c126b1 : ((l1_3.length : Int) != (l0_1.length : Int)) = true := bne_iff_ne.mpr c126
                have c126b2 : (l1_3.length == l0_1.length) = false := by first | simpa using c126 | (simp at c126 ⊢; omega)
                have H' := Aside0.mk H
                clear H
                have hnb141 := NB550_549.out
                have hnc141 := NB549_550.out
                have hnb142 := NB550_584.out
                have hnc142 := NB584_550.out
                have hnb143 := NB550_585.out
                have hnc143 := NB585_550.out
                obtain ⟨hcz144_0, hcz144_1, hcz144_2, hcz144_3, hcz144_4, hfz144_0, hfz144_1, hfz144_2, hfz144_3, hfz144_4⟩ := c5_ BK550.out
                go_wp2
                go_meet
                case rel => exact ⟨_, (1), sm_, H', ⟨by have := HJ4.out; have := HK2.out; have := HJ65.out; first | omega | exact Nat.le_refl _⟩, ⟨rs_ HO_585003.out⟩, ⟨rs_ HO_585004.out⟩, ⟨rs_ HO_586003.out⟩, ⟨rs_ HO_586004.out⟩, ⟨bq_ BK549.out⟩, ⟨bq_ BK550.out⟩, ⟨bq_ BK584.out⟩, ⟨bq_ BK585.out⟩, ⟨bl_⟩⟩
          ·replace c65 := Bool.eq_false_iff.mpr c65
           subst c65
           rw [if_neg (show ¬ (false = true) by decide)] at H
           have H' := Aside0.mk H
           clear H
           have hnb145 := NB549_550.out
           have hnc145 := NB550_549.out
           have hnb146 := NB549_584.out
           have hnc146 := NB584_549.out
           have hnb147 := NB549_585.out
           have hnc147 := NB585_549.out
           obtain ⟨hcz148_0, hcz148_1, hfz148_0, hfz148_1⟩ := c2_ BK549.out
           go_wp2_with (first | ((with_reducible refine gate_callee (f := 16) rfl ?_); refine goesL_ (some 71) rfl rfl Try.func16 (by kernel_rfl) rfl #[.agg #[.slice A0_0 l0_0.length c0_0, .slice A0_1 l0_1.length c0_1]] rfl ga_ ?_; (with_reducible refine (paymasterlaw14_ref.calls k2 (fun k_ => k_ < w.heap.size) _ _ l0_0 _ _ l0_1 t586 t589 _ ?side1 ?side2 ?side3 A63.out).mono ?_); (case side1 => exact Kd.V_mk HC0_0.out (Kd.F_below (Kd.C_F k58_heap HR0_0.out) bl_)); (case side2 => exact kc_ (Kd.C_below HR0_1.out HB.out)); (case side3 => exact HC0_1.out); rintro e w149 ⟨v587, v590, rfl, ho0, ho1, hb⟩; refine ⟨_, rfl, ?_⟩; have HO588 := Aside0.mk (Kd.V_lower (Kd.V_mono (ok' := fun k_ => some k_ ≠ (v590 : Value).ownBlock ∧ some k_ ≠ (.slice Ao32 y559.length co32 : Value).ownBlock ∧ some k_ ≠ (.slice Ao54 t568.length co54 : Value).ownBlock ∧ some k_ ≠ (.slice Ao55 t571.length co55 : Value).ownBlock ∧ some k_ ≠ (.slice Ao59 t577.length co59 : Value).ownBlock ∧ some k_ ≠ (.slice Ao60 t580.length co60 : Value).ownBlock ∧ k_ ≠ gb549 ∧ k_ ≠ gb550 ∧ k_ ≠ gb584 ∧ k_ ≠ gb585) ho0 (fun k_ hk_ => ⟨hk_.2, Or.elim hk_.1 (fun hs_ => fun e_ => Nat.not_le.2 hs_ (Kd.R_base HO_43.out k_ e_.symm)) (fun hn_ => (Kd.fresh' (Kd.R_lt (rq_ HO_43.out)) k_ hn_)), Or.elim hk_.1 (fun hs_ => fun e_ => Nat.not_le.2 hs_ (Kd.R_base HO570.out k_ e_.symm)) (fun hn_ => (Kd.fresh' (Kd.R_lt (rq_ HO570.out)) k_ hn_)), Or.elim hk_.1 (fun hs_ => fun e_ => Nat.not_le.2 hs_ (Kd.R_base HO573.out k_ e_.symm)) (fun hn_ => (Kd.fresh' (Kd.R_lt (rq_ HO573.out)) k_ hn_)), Or.elim hk_.1 (fun hs_ => fun e_ => Nat.not_le.2 hs_ (Kd.R_base HO579.out k_ e_.symm)) (fun hn_ => (Kd.fresh' (Kd.R_lt (rq_ HO579.out)) k_ hn_)), Or.elim hk_.1 (fun hs_ => fun e_ => Nat.not_le.2 hs_ (Kd.R_base HO582.out k_ e_.symm)) (fun hn_ => (Kd.fresh' (Kd.R_lt (rq_ HO582.out)) k_ hn_)), Or.elim hk_.1 (fun hs_ => fun e_ => Nat.not_le.2 hs_ (by rw [e_]; exact GW549.out)) (fun hn_ => (Kd.freshB (g := gb549) (o := .cells #[.slice A0_0 l0_0.length c0_0, .slice A0_1 l0_1.length c0_1] 25 (0, 0)) (bq_ BK549.out) k_ hn_)), Or.elim hk_.1 (fun hs_ => fun e_ => Nat.not_le.2 hs_ (by rw [e_]; exact GW550.out)) (fun hn_ => (Kd.freshB (g := gb550) (o := .cells #[.int .i64 a1_0, .int .i64 a1_1, .int .i64 a1_2, .slice A1_3 l1_3.length c1_3, .slice A1_4 l1_4.length c1_4] 30 (0, 0)) (bq_ BK550.out) k_ hn_)), Or.elim hk_.1 (fun hs_ => fun e_ => Nat.not_le.2 hs_ (by rw [e_]; exact GW584.out)) (fun hn_ => (Kd.freshB (g := gb584) (o := .cells #[.int .i64 t565, .int .i64 t566, .int .i64 t567, .slice Ao54 t568.length co54, .slice Ao55 t571.length co55] 30 (0, 0)) (bq_ BK584.out) k_ hn_)), Or.elim hk_.1 (fun hs_ => fun e_ => Nat.not_le.2 hs_ (by rw [e_]; exact GW585.out)) (fun hn_ => (Kd.freshB (g := gb585) (o := .cells #[.int .i64 t574, .int .i64 t575, .int .i64 t576, .slice Ao59 t577.length co59, .slice Ao60 t580.length co60] 30 (0, 0)) (bq_ BK585.out) k_ hn_))⟩)) (below_size bl_)); have HO591 := Aside0.mk (Kd.R_lower (Kd.R_mono (ok' := fun k_ => True) ho1 (fun _ hk_ => trivial)) (below_size bl_)); replace HO_43 := rl_ HO_43.out hb; replace HO570 := rl_ HO570.out hb; replace HO573 := rl_ HO573.out hb; replace HO579 := rl_ HO579.out hb; replace HO582 := rl_ HO582.out hb; replace BK549 := bb_ BK549.out hb; replace BK550 := bb_ BK550.out hb; replace BK584 := bb_ BK584.out hb; replace BK585 := bb_ BK585.out hb; replace HB := hs_ hb; (try clear hb); (try clear hb2); (try clear hk); (try clear hi); (try clear ho0); (try clear ho1); obtain ⟨Ao150, co150, eo150⟩ := Kd.V_slice HO588.out; subst eo150; obtain ⟨Ao151, co151, eo151⟩ := Kd.R_slice HO591.out; subst eo151) | ((with_reducible refine gate_callee (f := 15) rfl ?_); refine goesL_ (some 72) rfl rfl Try.func15 (by kernel_rfl) rfl #[.agg #[.slice Ao150 t586.length co150, .slice Ao151 t589.length co151]] rfl ga_ ?_; (with_reducible refine (paymasterref14_Right.calls k2 _ _ t586 _ _ t589 false _ ?side1 ?side2 ?side3 ?side4 A64.out).mono ?_); (case side1 => exact kc_ (Kd.V_reads' HO588.out).2.2); (case side2 => exact (Kd.V_reads' HO588.out).2.1); (case side3 => exact kc_ (Kd.R_reads' HO591.out).2.2); (case side4 => exact (Kd.R_reads' HO591.out).2.1); rintro e w152 ⟨rfl, hb⟩; refine ⟨_, rfl, ?_⟩; replace HO_43 := rl_ HO_43.out hb; replace HO570 := rl_ HO570.out hb; replace HO573 := rl_ HO573.out hb; replace HO579 := rl_ HO579.out hb; replace HO582 := rl_ HO582.out hb; replace HO588 := Aside0.mk (Kd.V_below (by refine kv_ ?_; exact HO588.out) hb); replace HO591 := rl_ HO591.out hb; replace BK549 := bb_ BK549.out hb; replace BK550 := bb_ BK550.out hb; replace BK584 := bb_ BK584.out hb; replace BK585 := bb_ BK585.out hb; replace HB := hs_ hb; (try clear hb); (try clear hb2); (try clear hk); (try clear hi)))
           go_meet
           case rel => exact ⟨_, (1), sm_, H', ⟨by have := HJ4.out; have := HK2.out; first | omega | exact Nat.le_refl _⟩, ⟨rs_ HO570.out⟩, ⟨rs_ HO573.out⟩, ⟨rs_ HO579.out⟩, ⟨rs_ HO582.out⟩, ⟨bq_ BK549.out⟩, ⟨bq_ BK550.out⟩, ⟨bq_ BK584.out⟩, ⟨bq_ BK585.out⟩, ⟨bl_⟩⟩
         case rest =>
          clear HC43
          try clear c22; try clear c25; try clear c26; try clear c33; try clear c33b0; try clear hcz45_0; try clear hcz45_1; try clear hcz46_0; try clear hcz46_1; try clear hcz46_2; try clear hcz46_3; try clear hcz46_4; try clear hcz53_0; try clear hcz53_1; try clear hcz53_2; try clear hcz53_3; try clear hcz53_4; try clear hcz58_0; try clear hcz58_1; try clear hcz58_2; try clear hcz58_3; try clear hcz58_4
          try clear hfz45_0; try clear hfz45_1; try clear hfz46_0; try clear hfz46_1; try clear hfz46_2; try clear hfz46_3; try clear hfz46_4; try clear hfz53_0; try clear hfz53_1; try clear hfz53_2; try clear hfz53_3; try clear hfz53_4; try clear hfz58_0; try clear hfz58_1; try clear hfz58_2; try clear hfz58_3; try clear hfz58_4
          obtain ⟨kq, x14_42, rfl, HA, HJ42, HO_585003, HO_585004, HO_586003, HO_586004, BK549, BK550, BK584, BK585, HB⟩ := hcut
          cases kq with
          | zero => exact absurd HA.out (by simp [paymasterlaw14_WithholdStep.j3])
          | succ kj42 =>
           have H := HA.out
           clear HA
           simp only [paymasterlaw14_WithholdStep.j3] at H
           by_cases c153 : x14_42 = 0
           ·rw [if_pos c153] at H
            have c153b0 : (x14_42 == 0) = true := beq_iff_eq.mpr c153
            have c153b1 : (x14_42 != 0) = false := bne_eq_false_iff_eq.mpr c153
            clear c153
            replace H := Option.bind_eq_some_iff.mp H
            obtain ⟨⟨t604, t607⟩, A1540, H⟩ := H
            (try dsimp only at H)
            have A154 := Aside0.mk A1540
            clear A1540
            replace H := Option.bind_eq_some_iff.mp H
            obtain ⟨⟨t610, t611, t612, t613, t616⟩, A1550, H⟩ := H
            (try dsimp only at H)
            have A155 := Aside0.mk A1550
            clear A1550
            replace H := Option.bind_eq_some_iff.mp H
            obtain ⟨t620, A1560, H⟩ := H
            (try dsimp only at H)
            have A156 := Aside0.mk A1560
            clear A1560
            by_cases c157 : t620 = true
            ·subst c157
             rw [if_pos rfl] at H
             replace H := Option.bind_eq_some_iff.mp H
             obtain ⟨⟨t621, t622, t623, t624, t627⟩, A1580, H⟩ := H
             (try dsimp only at H)
             have A158 := Aside0.mk A1580
             clear A1580
             replace H := Option.bind_eq_some_iff.mp H
             obtain ⟨t630, A1590, H⟩ := H
             (try dsimp only at H)
             have A159 := Aside0.mk A1590
             clear A1590
             by_cases c160 : t630 = true
             ·subst c160
              rw [if_pos rfl] at H
              by_cases c161 : t583 = x14_42
              ·rw [if_pos c161] at H
               have c161b0 : (t583 == x14_42) = true := beq_iff_eq.mpr c161
               have c161b1 : (t583 != x14_42) = false := bne_eq_false_iff_eq.mpr c161
               clear c161
               replace H := Option.bind_eq_some_iff.mp H
               obtain ⟨t631, A1620, H⟩ := H
               (try dsimp only at H)
               have A162 := Aside0.mk A1620
               clear A1620
               obtain rfl := Option.some.inj H
               try go_wp2
               replace HO_585003 := Aside0.mk (Kd.R_drew HO_585003.out)
               replace HO_585004 := Aside0.mk (Kd.R_drew HO_585004.out)
               replace HO_586003 := Aside0.mk (Kd.R_drew HO_586003.out)
               replace HO_586004 := Aside0.mk (Kd.R_drew HO_586004.out)
               replace BK549 := Aside0.mk (blk_drew BK549.out)
               replace BK550 := Aside0.mk (blk_drew BK550.out)
               replace BK584 := Aside0.mk (blk_drew BK584.out)
               replace BK585 := Aside0.mk (blk_drew BK585.out)
               replace HB := Aside0.mk (below_drew1 HB.out)
               refine start_ (n := 6) (S := fun w' => w'.cell? ⟨gb584, 0, none⟩ = some (.int .i64 t565) ∧ w'.cell? ⟨gb584, 1, none⟩ = some (.int .i64 t566) ∧ w'.cell? ⟨gb584, 2, none⟩ = some (.int .i64 t567) ∧ w'.cell? ⟨gb584, 3, none⟩ = some (.slice Ao54 t568.length co54) ∧ w'.cell? ⟨gb584, 4, none⟩ = some (.slice Ao55 t571.length co55) ∧ w'.cell? ⟨gb585, 0, none⟩ = some (.int .i64 t574) ∧ w'.cell? ⟨gb585, 1, none⟩ = some (.int .i64 t575) ∧ w'.cell? ⟨gb585, 2, none⟩ = some (.int .i64 t576) ∧ w'.cell? ⟨gb585, 3, none⟩ = some (.slice Ao59 t577.length co59) ∧ w'.cell? ⟨gb585, 4, none⟩ = some (.slice Ao60 t580.length co60)) (ds := []) #[false, false, false, false, false, false] (by kernel_rfl) rfl rfl ⟨(blk_cell BK584.out 0).trans rfl, (blk_cell BK584.out 1).trans rfl, (blk_cell BK584.out 2).trans rfl, (blk_cell BK584.out 3).trans rfl, (blk_cell BK584.out 4).trans rfl, (blk_cell BK585.out 0).trans rfl, (blk_cell BK585.out 1).trans rfl, (blk_cell BK585.out 2).trans rfl, (blk_cell BK585.out 3).trans rfl, (blk_cell BK585.out 4).trans rfl⟩ (fun hHeld => ?_)
               generalize wc.drew = w163 at HO_585003 HO_585004 HO_586003 HO_586004 BK549 BK550 BK584 BK585 HB hHeld ⊢
               refine take_ (i := 0) (N := some 130) (v := ?_) (a' := ?_) #[true, false, false, false, false, false] rfl rfl (by kernel_rfl) (fun _ _ _ h => h) (Or.inl ⟨by rfl, ?_⟩) hHeld ?_ ?_
               rotate_left
               ·rintro w' ⟨s0, s1, s2, s3, s4, s5, s6, s7, s8, s9⟩
                go_simp
                with_reducible rfl
               rotate_left
               ·simp only [Act.put, List.setIfInBounds_toArray, List.set_cons_zero, List.set_cons_succ, i64_w, i32_w]
                rfl
               refine take_ (i := 1) (N := some 131) (v := ?_) (a' := ?_) #[true, true, false, false, false, false] rfl rfl (by kernel_rfl) (fun _ _ _ h => h) (Or.inl ⟨by rfl, ?_⟩) hHeld ?_ ?_
               rotate_left
               ·rintro w' ⟨s0, s1, s2, s3, s4, s5, s6, s7, s8, s9⟩
                go_simp
                with_reducible rfl
               rotate_left
               ·simp only [Act.put, List.setIfInBounds_toArray, List.set_cons_zero, List.set_cons_succ, i64_w, i32_w]
                rfl
               refine join_ (σ := Nat × Nat) 2 #[true, true, true, true, false, false] (fun s_ => [(16, .pointer (some ⟨s_.1, 0, none⟩)), (17, .pointer (some ⟨s_.2, 0, none⟩))]) (fun s_ w' => (w'.cell? ⟨gb584, 0, none⟩ = some (.int .i64 t565) ∧ w'.cell? ⟨gb584, 1, none⟩ = some (.int .i64 t566) ∧ w'.cell? ⟨gb584, 2, none⟩ = some (.int .i64 t567) ∧ w'.cell? ⟨gb584, 3, none⟩ = some (.slice Ao54 t568.length co54) ∧ w'.cell? ⟨gb584, 4, none⟩ = some (.slice Ao55 t571.length co55) ∧ w'.cell? ⟨gb585, 0, none⟩ = some (.int .i64 t574) ∧ w'.cell? ⟨gb585, 1, none⟩ = some (.int .i64 t575) ∧ w'.cell? ⟨gb585, 2, none⟩ = some (.int .i64 t576) ∧ w'.cell? ⟨gb585, 3, none⟩ = some (.slice Ao59 t577.length co59) ∧ w'.cell? ⟨gb585, 4, none⟩ = some (.slice Ao60 t580.length co60)) ∧ (Kd.R (Kd.int .i64) 3 w' w.heap.size (fun k_ => some k_ ≠ (.slice Ao55 t571.length co55 : Value).ownBlock ∧ some k_ ≠ (.slice Ao59 t577.length co59 : Value).ownBlock ∧ some k_ ≠ (.slice Ao60 t580.length co60 : Value).ownBlock) (.slice Ao54 t568.length co54) t568) ∧ (Kd.R (Kd.int .i64) 3 w' w.heap.size (fun k_ => some k_ ≠ (.slice Ao54 t568.length co54 : Value).ownBlock ∧ some k_ ≠ (.slice Ao59 t577.length co59 : Value).ownBlock ∧ some k_ ≠ (.slice Ao60 t580.length co60 : Value).ownBlock) (.slice Ao55 t571.length co55) t571) ∧ (Kd.R (Kd.int .i64) 3 w' w.heap.size (fun k_ => some k_ ≠ (.slice Ao54 t568.length co54 : Value).ownBlock ∧ some k_ ≠ (.slice Ao55 t571.length co55 : Value).ownBlock ∧ some k_ ≠ (.slice Ao60 t580.length co60 : Value).ownBlock) (.slice Ao59 t577.length co59) t577) ∧ (Kd.R (Kd.int .i64) 3 w' w.heap.size (fun k_ => some k_ ≠ (.slice Ao54 t568.length co54 : Value).ownBlock ∧ some k_ ≠ (.slice Ao55 t571.length co55 : Value).ownBlock ∧ some k_ ≠ (.slice Ao59 t577.length co59 : Value).ownBlock) (.slice Ao60 t580.length co60) t580) ∧ (w'.heap[gb549]? = some (.cells #[.slice A0_0 l0_0.length c0_0, .slice A0_1 l0_1.length c0_1] 25 (0, 0))) ∧ (w'.heap[gb550]? = some (.cells #[.int .i64 a1_0, .int .i64 a1_1, .int .i64 a1_2, .slice A1_3 l1_3.length c1_3, .slice A1_4 l1_4.length c1_4] 30 (0, 0))) ∧ (w'.heap[gb584]? = some (.cells #[.int .i64 t565, .int .i64 t566, .int .i64 t567, .slice Ao54 t568.length co54, .slice Ao55 t571.length co55] 30 (0, 0))) ∧ (w'.heap[gb585]? = some (.cells #[.int .i64 t574, .int .i64 t575, .int .i64 t576, .slice Ao59 t577.length co59, .slice Ao60 t580.length co60] 30 (0, 0))) ∧ (w'.heap[s_.1]? = some (.cells #[.int .i64 0, .int .i64 0, .int .i64 0, .slice none 0 0, .slice none 0 0] 35 (0, 0))) ∧ (w'.heap[s_.2]? = some (.cells #[.int .i64 0, .int .i64 0, .int .i64 0, .slice none 0 0, .slice none 0 0] 35 (0, 0))) ∧ (w.heap.size ≤ s_.1) ∧ (w.heap.size ≤ s_.1) ∧ (gb549 ≠ s_.1) ∧ (s_.1 ≠ gb549) ∧ (gb550 ≠ s_.1) ∧ (s_.1 ≠ gb550) ∧ (gb584 ≠ s_.1) ∧ (s_.1 ≠ gb584) ∧ (gb585 ≠ s_.1) ∧ (s_.1 ≠ gb585) ∧ (s_.2 ≠ s_.1) ∧ (s_.1 ≠ s_.2) ∧ (w.heap.size ≤ s_.2) ∧ (w.heap.size ≤ s_.2) ∧ (gb549 ≠ s_.2) ∧ (s_.2 ≠ gb549) ∧ (gb550 ≠ s_.2) ∧ (s_.2 ≠ gb550) ∧ (gb584 ≠ s_.2) ∧ (s_.2 ≠ gb584) ∧ (gb585 ≠ s_.2) ∧ (s_.2 ≠ gb585) ∧ (Below w.heap.size w w')) ?_ ?_
               rotate_left
               ·intro hCont
                refine two_ (i := 2) (j := 3) (Ni := some 16) (Nj := some 17) #[true, true, true, false, false, false] #[true, true, false, true, false, false] rfl rfl rfl rfl (by kernel_rfl) (by decide) (by decide) (fun K hK => ?_) (fun K hK => ?_)
                ·skip
                 refine box_step ?hg (N := 16) ?hd (cs := #[.int .i64 0, .int .i64 0, .int .i64 0, .slice none 0 0, .slice none 0 0]) (t := 35) ?hr ?_; (case hd => rfl); (case hg => rfl); (case hr => first | (go_simp; done) | (go_simp; rfl))
                 intro gb599 hg w164 hbox hb
                 have BK599 := Aside0.mk hbox
                 have GW599 := gs_ hg
                 have GE599 := gs_ hg
                 have NB549_599 := nl_ hg BK549.out
                 have NB599_549 := ng_ hg BK549.out
                 have NB550_599 := nl_ hg BK550.out
                 have NB599_550 := ng_ hg BK550.out
                 have NB584_599 := nl_ hg BK584.out
                 have NB599_584 := ng_ hg BK584.out
                 have NB585_599 := nl_ hg BK585.out
                 have NB599_585 := ng_ hg BK585.out
                 replace HO_585003 := rl_ HO_585003.out hb
                 replace HO_585004 := rl_ HO_585004.out hb
                 replace HO_586003 := rl_ HO_586003.out hb
                 replace HO_586004 := rl_ HO_586004.out hb
                 replace BK549 := bb_ BK549.out hb
                 replace BK550 := bb_ BK550.out hb
                 replace BK584 := bb_ BK584.out hb
                 replace BK585 := bb_ BK585.out hb
                 replace HB := hs_ hb
                 clear hb hbox hg
                 refine hK.out _ _ ⟨(blk_cell BK584.out 0).trans rfl, (blk_cell BK584.out 1).trans rfl, (blk_cell BK584.out 2).trans rfl, (blk_cell BK584.out 3).trans rfl, (blk_cell BK584.out 4).trans rfl, (blk_cell BK585.out 0).trans rfl, (blk_cell BK585.out 1).trans rfl, (blk_cell BK585.out 2).trans rfl, (blk_cell BK585.out 3).trans rfl, (blk_cell BK585.out 4).trans rfl⟩ (fun hHeld => ?_)
                 clear hK K
                 refine norm_ (a' := ?_) ?_ ?_
                 rotate_left
                 ·show Act.put _ (some 16) _ = _
                  simp only [Act.put, List.setIfInBounds_toArray, List.set_cons_zero, List.set_cons_succ, i64_w, i32_w]
                  rfl
                 refine one_ (i := 3) (N := some 17) #[true, true, true, true, false, false] rfl rfl (by kernel_rfl) (by decide) (fun K hK => ?_)
                 refine box_step ?hg (N := 17) ?hd (cs := #[.int .i64 0, .int .i64 0, .int .i64 0, .slice none 0 0, .slice none 0 0]) (t := 35) ?hr ?_; (case hd => rfl); (case hg => rfl); (case hr => first | (go_simp; done) | (go_simp; rfl))
                 intro gb600 hg w165 hbox hb
                 have BK600 := Aside0.mk hbox
                 have GW600 := gs_ hg
                 have GE600 := gs_ hg
                 have NB549_600 := nl_ hg BK549.out
                 have NB600_549 := ng_ hg BK549.out
                 have NB550_600 := nl_ hg BK550.out
                 have NB600_550 := ng_ hg BK550.out
                 have NB584_600 := nl_ hg BK584.out
                 have NB600_584 := ng_ hg BK584.out
                 have NB585_600 := nl_ hg BK585.out
                 have NB600_585 := ng_ hg BK585.out
                 have NB599_600 := nl_ hg BK599.out
                 have NB600_599 := ng_ hg BK599.out
                 replace HO_585003 := rl_ HO_585003.out hb
                 replace HO_585004 := rl_ HO_585004.out hb
                 replace HO_586003 := rl_ HO_586003.out hb
                 replace HO_586004 := rl_ HO_586004.out hb
                 replace BK549 := bb_ BK549.out hb
                 replace BK550 := bb_ BK550.out hb
                 replace BK584 := bb_ BK584.out hb
                 replace BK585 := bb_ BK585.out hb
                 replace BK599 := bb_ BK599.out hb
                 replace HB := hs_ hb
                 clear hb hbox hg
                 refine hK.out _ _ ⟨(blk_cell BK584.out 0).trans rfl, (blk_cell BK584.out 1).trans rfl, (blk_cell BK584.out 2).trans rfl, (blk_cell BK584.out 3).trans rfl, (blk_cell BK584.out 4).trans rfl, (blk_cell BK585.out 0).trans rfl, (blk_cell BK585.out 1).trans rfl, (blk_cell BK585.out 2).trans rfl, (blk_cell BK585.out 3).trans rfl, (blk_cell BK585.out 4).trans rfl⟩ (fun hHeld => ?_)
                 clear hK K
                 refine norm_ (a' := ?_) ?_ ?_
                 rotate_left
                 ·show Act.put _ (some 17) _ = _
                  simp only [Act.put, List.setIfInBounds_toArray, List.set_cons_zero, List.set_cons_succ, i64_w, i32_w]
                  rfl
                 exact norm_ (by simp only [putAll, Act.put, List.setIfInBounds_toArray, List.set_cons_zero, List.set_cons_succ]) (hCont (gb599, gb600) _ ⟨hHeld, (rs_ HO_585003.out), (rs_ HO_585004.out), (rs_ HO_586003.out), (rs_ HO_586004.out), (bq_ BK549.out), (bq_ BK550.out), (bq_ BK584.out), (bq_ BK585.out), (bq_ BK599.out), (bq_ BK600.out), GW599.out, GE599.out, NB549_599.out, NB599_549.out, NB550_599.out, NB599_550.out, NB584_599.out, NB599_584.out, NB585_599.out, NB599_585.out, NB600_599.out, NB599_600.out, GW600.out, GE600.out, NB549_600.out, NB600_549.out, NB550_600.out, NB600_550.out, NB584_600.out, NB600_584.out, NB585_600.out, NB600_585.out, bl_⟩)
                ·skip
                 refine box_step ?hg (N := 17) ?hd (cs := #[.int .i64 0, .int .i64 0, .int .i64 0, .slice none 0 0, .slice none 0 0]) (t := 35) ?hr ?_; (case hd => rfl); (case hg => rfl); (case hr => first | (go_simp; done) | (go_simp; rfl))
                 intro gb600 hg w164 hbox hb
                 have BK600 := Aside0.mk hbox
                 have GW600 := gs_ hg
                 have GE600 := gs_ hg
                 have NB549_600 := nl_ hg BK549.out
                 have NB600_549 := ng_ hg BK549.out
                 have NB550_600 := nl_ hg BK550.out
                 have NB600_550 := ng_ hg BK550.out
                 have NB584_600 := nl_ hg BK584.out
                 have NB600_584 := ng_ hg BK584.out
                 have NB585_600 := nl_ hg BK585.out
                 have NB600_585 := ng_ hg BK585.out
                 replace HO_585003 := rl_ HO_585003.out hb
                 replace HO_585004 := rl_ HO_585004.out hb
                 replace HO_586003 := rl_ HO_586003.out hb
                 replace HO_586004 := rl_ HO_586004.out hb
                 replace BK549 := bb_ BK549.out hb
                 replace BK550 := bb_ BK550.out hb
                 replace BK584 := bb_ BK584.out hb
                 replace BK585 := bb_ BK585.out hb
                 replace HB := hs_ hb
                 clear hb hbox hg
                 refine hK.out _ _ ⟨(blk_cell BK584.out 0).trans rfl, (blk_cell BK584.out 1).trans rfl, (blk_cell BK584.out 2).trans rfl, (blk_cell BK584.out 3).trans rfl, (blk_cell BK584.out 4).trans rfl, (blk_cell BK585.out 0).trans rfl, (blk_cell BK585.out 1).trans rfl, (blk_cell BK585.out 2).trans rfl, (blk_cell BK585.out 3).trans rfl, (blk_cell BK585.out 4).trans rfl⟩ (fun hHeld => ?_)
                 clear hK K
                 refine norm_ (a' := ?_) ?_ ?_
                 rotate_left
                 ·show Act.put _ (some 17) _ = _
                  simp only [Act.put, List.setIfInBounds_toArray, List.set_cons_zero, List.set_cons_succ, i64_w, i32_w]
                  rfl
                 refine one_ (i := 2) (N := some 16) #[true, true, true, true, false, false] rfl rfl (by kernel_rfl) (by decide) (fun K hK => ?_)
                 refine box_step ?hg (N := 16) ?hd (cs := #[.int .i64 0, .int .i64 0, .int .i64 0, .slice none 0 0, .slice none 0 0]) (t := 35) ?hr ?_; (case hd => rfl); (case hg => rfl); (case hr => first | (go_simp; done) | (go_simp; rfl))
                 intro gb599 hg w165 hbox hb
                 have BK599 := Aside0.mk hbox
                 have GW599 := gs_ hg
                 have GE599 := gs_ hg
                 have NB549_599 := nl_ hg BK549.out
                 have NB599_549 := ng_ hg BK549.out
                 have NB550_599 := nl_ hg BK550.out
                 have NB599_550 := ng_ hg BK550.out
                 have NB584_599 := nl_ hg BK584.out
                 have NB599_584 := ng_ hg BK584.out
                 have NB585_599 := nl_ hg BK585.out
                 have NB599_585 := ng_ hg BK585.out
                 have NB600_599 := nl_ hg BK600.out
                 have NB599_600 := ng_ hg BK600.out
                 replace HO_585003 := rl_ HO_585003.out hb
                 replace HO_585004 := rl_ HO_585004.out hb
                 replace HO_586003 := rl_ HO_586003.out hb
                 replace HO_586004 := rl_ HO_586004.out hb
                 replace BK549 := bb_ BK549.out hb
                 replace BK550 := bb_ BK550.out hb
                 replace BK584 := bb_ BK584.out hb
                 replace BK585 := bb_ BK585.out hb
                 replace BK600 := bb_ BK600.out hb
                 replace HB := hs_ hb
                 clear hb hbox hg
                 refine hK.out _ _ ⟨(blk_cell BK584.out 0).trans rfl, (blk_cell BK584.out 1).trans rfl, (blk_cell BK584.out 2).trans rfl, (blk_cell BK584.out 3).trans rfl, (blk_cell BK584.out 4).trans rfl, (blk_cell BK585.out 0).trans rfl, (blk_cell BK585.out 1).trans rfl, (blk_cell BK585.out 2).trans rfl, (blk_cell BK585.out 3).trans rfl, (blk_cell BK585.out 4).trans rfl⟩ (fun hHeld => ?_)
                 clear hK K
                 refine norm_ (a' := ?_) ?_ ?_
                 rotate_left
                 ·show Act.put _ (some 16) _ = _
                  simp only [Act.put, List.setIfInBounds_toArray, List.set_cons_zero, List.set_cons_succ, i64_w, i32_w]
                  rfl
                 exact norm_ (by simp only [putAll, Act.put, List.setIfInBounds_toArray, List.set_cons_zero, List.set_cons_succ]) (hCont (gb599, gb600) _ ⟨hHeld, (rs_ HO_585003.out), (rs_ HO_585004.out), (rs_ HO_586003.out), (rs_ HO_586004.out), (bq_ BK549.out), (bq_ BK550.out), (bq_ BK584.out), (bq_ BK585.out), (bq_ BK599.out), (bq_ BK600.out), GW599.out, GE599.out, NB549_599.out, NB599_549.out, NB550_599.out, NB599_550.out, NB584_599.out, NB599_584.out, NB585_599.out, NB599_585.out, NB600_599.out, NB599_600.out, GW600.out, GE600.out, NB549_600.out, NB600_549.out, NB550_600.out, NB600_550.out, NB584_600.out, NB600_584.out, NB585_600.out, NB600_585.out, bl_⟩)
               rintro ⟨gb599, gb600⟩ w166 ⟨hS_, h0_, h1_, h2_, h3_, h4_, h5_, h6_, h7_, h8_, h9_, h10_, h11_, h12_, h13_, h14_, h15_, h16_, h17_, h18_, h19_, h20_, h21_, h22_, h23_, h24_, h25_, h26_, h27_, h28_, h29_, h30_, h31_, h32_⟩
               have BK599 : Aside0 (w166.heap[gb599]? = some (.cells #[.int .i64 0, .int .i64 0, .int .i64 0, .slice none 0 0, .slice none 0 0] 35 (0, 0))) := ⟨h8_⟩
               have BK600 : Aside0 (w166.heap[gb600]? = some (.cells #[.int .i64 0, .int .i64 0, .int .i64 0, .slice none 0 0, .slice none 0 0] 35 (0, 0))) := ⟨h9_⟩
               have GW599 : Aside0 (w.heap.size ≤ gb599) := ⟨h10_⟩
               have GE599 : Aside0 (w.heap.size ≤ gb599) := ⟨h11_⟩
               have NB549_599 : Aside0 (gb549 ≠ gb599) := ⟨h12_⟩
               have NB599_549 : Aside0 (gb599 ≠ gb549) := ⟨h13_⟩
               have NB550_599 : Aside0 (gb550 ≠ gb599) := ⟨h14_⟩
               have NB599_550 : Aside0 (gb599 ≠ gb550) := ⟨h15_⟩
               have NB584_599 : Aside0 (gb584 ≠ gb599) := ⟨h16_⟩
               have NB599_584 : Aside0 (gb599 ≠ gb584) := ⟨h17_⟩
               have NB585_599 : Aside0 (gb585 ≠ gb599) := ⟨h18_⟩
               have NB599_585 : Aside0 (gb599 ≠ gb585) := ⟨h19_⟩
               have NB600_599 : Aside0 (gb600 ≠ gb599) := ⟨h20_⟩
               have NB599_600 : Aside0 (gb599 ≠ gb600) := ⟨h21_⟩
               have GW600 : Aside0 (w.heap.size ≤ gb600) := ⟨h22_⟩
               have GE600 : Aside0 (w.heap.size ≤ gb600) := ⟨h23_⟩
               have NB549_600 : Aside0 (gb549 ≠ gb600) := ⟨h24_⟩
               have NB600_549 : Aside0 (gb600 ≠ gb549) := ⟨h25_⟩
               have NB550_600 : Aside0 (gb550 ≠ gb600) := ⟨h26_⟩
               have NB600_550 : Aside0 (gb600 ≠ gb550) := ⟨h27_⟩
               have NB584_600 : Aside0 (gb584 ≠ gb600) := ⟨h28_⟩
               have NB600_584 : Aside0 (gb600 ≠ gb584) := ⟨h29_⟩
               have NB585_600 : Aside0 (gb585 ≠ gb600) := ⟨h30_⟩
               have NB600_585 : Aside0 (gb600 ≠ gb585) := ⟨h31_⟩
               replace HO_585003 : Aside0 (Kd.R (Kd.int .i64) 3 w166 w.heap.size (fun k_ => some k_ ≠ (.slice Ao55 t571.length co55 : Value).ownBlock ∧ some k_ ≠ (.slice Ao59 t577.length co59 : Value).ownBlock ∧ some k_ ≠ (.slice Ao60 t580.length co60 : Value).ownBlock) (.slice Ao54 t568.length co54) t568) := ⟨h0_⟩
               replace HO_585004 : Aside0 (Kd.R (Kd.int .i64) 3 w166 w.heap.size (fun k_ => some k_ ≠ (.slice Ao54 t568.length co54 : Value).ownBlock ∧ some k_ ≠ (.slice Ao59 t577.length co59 : Value).ownBlock ∧ some k_ ≠ (.slice Ao60 t580.length co60 : Value).ownBlock) (.slice Ao55 t571.length co55) t571) := ⟨h1_⟩
               replace HO_586003 : Aside0 (Kd.R (Kd.int .i64) 3 w166 w.heap.size (fun k_ => some k_ ≠ (.slice Ao54 t568.length co54 : Value).ownBlock ∧ some k_ ≠ (.slice Ao55 t571.length co55 : Value).ownBlock ∧ some k_ ≠ (.slice Ao60 t580.length co60 : Value).ownBlock) (.slice Ao59 t577.length co59) t577) := ⟨h2_⟩
               replace HO_586004 : Aside0 (Kd.R (Kd.int .i64) 3 w166 w.heap.size (fun k_ => some k_ ≠ (.slice Ao54 t568.length co54 : Value).ownBlock ∧ some k_ ≠ (.slice Ao55 t571.length co55 : Value).ownBlock ∧ some k_ ≠ (.slice Ao59 t577.length co59 : Value).ownBlock) (.slice Ao60 t580.length co60) t580) := ⟨h3_⟩
               replace BK549 : Aside0 (w166.heap[gb549]? = some (.cells #[.slice A0_0 l0_0.length c0_0, .slice A0_1 l0_1.length c0_1] 25 (0, 0))) := ⟨h4_⟩
               replace BK550 : Aside0 (w166.heap[gb550]? = some (.cells #[.int .i64 a1_0, .int .i64 a1_1, .int .i64 a1_2, .slice A1_3 l1_3.length c1_3, .slice A1_4 l1_4.length c1_4] 30 (0, 0))) := ⟨h5_⟩
               replace BK584 : Aside0 (w166.heap[gb584]? = some (.cells #[.int .i64 t565, .int .i64 t566, .int .i64 t567, .slice Ao54 t568.length co54, .slice Ao55 t571.length co55] 30 (0, 0))) := ⟨h6_⟩
               replace BK585 : Aside0 (w166.heap[gb585]? = some (.cells #[.int .i64 t574, .int .i64 t575, .int .i64 t576, .slice Ao59 t577.length co59, .slice Ao60 t580.length co60] 30 (0, 0))) := ⟨h7_⟩
               replace HB : Aside0 (Below w.heap.size w w166) := ⟨h32_⟩
               clear h0_ h1_ h2_ h3_ h4_ h5_ h6_ h7_ h8_ h9_ h10_ h11_ h12_ h13_ h14_ h15_ h16_ h17_ h18_ h19_ h20_ h21_ h22_ h23_ h24_ h25_ h26_ h27_ h28_ h29_ h30_ h31_ h32_
               have hHeld : w166.cell? ⟨gb584, 0, none⟩ = some (.int .i64 t565) ∧ w166.cell? ⟨gb584, 1, none⟩ = some (.int .i64 t566) ∧ w166.cell? ⟨gb584, 2, none⟩ = some (.int .i64 t567) ∧ w166.cell? ⟨gb584, 3, none⟩ = some (.slice Ao54 t568.length co54) ∧ w166.cell? ⟨gb584, 4, none⟩ = some (.slice Ao55 t571.length co55) ∧ w166.cell? ⟨gb585, 0, none⟩ = some (.int .i64 t574) ∧ w166.cell? ⟨gb585, 1, none⟩ = some (.int .i64 t575) ∧ w166.cell? ⟨gb585, 2, none⟩ = some (.int .i64 t576) ∧ w166.cell? ⟨gb585, 3, none⟩ = some (.slice Ao59 t577.length co59) ∧ w166.cell? ⟨gb585, 4, none⟩ = some (.slice Ao60 t580.length co60) := hS_
               refine norm_ (a' := ?_) ?_ ?_
               rotate_left
               ·simp only [putAll, Act.put, List.setIfInBounds_toArray, List.set_cons_zero, List.set_cons_succ]
                rfl
               refine one_ (i := 4) (N := none) #[true, true, true, true, true, false] rfl rfl (by kernel_rfl) (by decide) (fun K hK => ?_)
               have hs167 : w166.cell? ⟨gb599, 0, none⟩ = some (.int .i64 0) := (blk_cell BK599.out 0).trans rfl
               have hfs167 := blk_frozen BK599.out 0
               have hns167_0 := NB549_599.out
               have hns167_1 := NB550_599.out
               have hns167_2 := NB584_599.out
               have hns167_3 := NB585_599.out
               have hns167_5 := NB600_599.out
               have hms167_0 := NB599_549.out
               have hms167_1 := NB599_550.out
               have hms167_2 := NB599_584.out
               have hms167_3 := NB599_585.out
               have hms167_5 := NB599_600.out
               have hs168 : w166.cell? ⟨gb599, 1, none⟩ = some (.int .i64 0) := (blk_cell BK599.out 1).trans rfl
               have hfs168 := blk_frozen BK599.out 1
               have hns168_0 := NB549_599.out
               have hns168_1 := NB550_599.out
               have hns168_2 := NB584_599.out
               have hns168_3 := NB585_599.out
               have hns168_5 := NB600_599.out
               have hms168_0 := NB599_549.out
               have hms168_1 := NB599_550.out
               have hms168_2 := NB599_584.out
               have hms168_3 := NB599_585.out
               have hms168_5 := NB599_600.out
               have hs169 : w166.cell? ⟨gb599, 2, none⟩ = some (.int .i64 0) := (blk_cell BK599.out 2).trans rfl
               have hfs169 := blk_frozen BK599.out 2
               have hns169_0 := NB549_599.out
               have hns169_1 := NB550_599.out
               have hns169_2 := NB584_599.out
               have hns169_3 := NB585_599.out
               have hns169_5 := NB600_599.out
               have hms169_0 := NB599_549.out
               have hms169_1 := NB599_550.out
               have hms169_2 := NB599_584.out
               have hms169_3 := NB599_585.out
               have hms169_5 := NB599_600.out
               have hs170 : w166.cell? ⟨gb599, 3, none⟩ = some (.slice none 0 0) := (blk_cell BK599.out 3).trans rfl
               have hfs170 := blk_frozen BK599.out 3
               have hns170_0 := NB549_599.out
               have hns170_1 := NB550_599.out
               have hns170_2 := NB584_599.out
               have hns170_3 := NB585_599.out
               have hns170_5 := NB600_599.out
               have hms170_0 := NB599_549.out
               have hms170_1 := NB599_550.out
               have hms170_2 := NB599_584.out
               have hms170_3 := NB599_585.out
               have hms170_5 := NB599_600.out
               have hs171 : w166.cell? ⟨gb599, 4, none⟩ = some (.slice none 0 0) := (blk_cell BK599.out 4).trans rfl
               have hfs171 := blk_frozen BK599.out 4
               have hns171_0 := NB549_599.out
               have hns171_1 := NB550_599.out
               have hns171_2 := NB584_599.out
               have hns171_3 := NB585_599.out
               have hns171_5 := NB600_599.out
               have hms171_0 := NB599_549.out
               have hms171_1 := NB599_550.out
               have hms171_2 := NB599_584.out
               have hms171_3 := NB599_585.out
               have hms171_5 := NB599_600.out
               refine skip_ (w1 := ?_) (by rfl) rfl ?_ ?_
               rotate_left
               ·go_simp
                rfl
               refine hK.out _ _ ⟨((cell_far (p := ⟨gb599, _, none⟩) NB584_599.out _).trans (((cell_far (p := ⟨gb599, _, none⟩) NB584_599.out _).trans (((cell_far (p := ⟨gb599, _, none⟩) NB584_599.out _).trans (((cell_far (p := ⟨gb599, _, none⟩) NB584_599.out _).trans (((cell_far (p := ⟨gb599, _, none⟩) NB584_599.out _).trans (hHeld.1)))))))))), ((cell_far (p := ⟨gb599, _, none⟩) NB584_599.out _).trans (((cell_far (p := ⟨gb599, _, none⟩) NB584_599.out _).trans (((cell_far (p := ⟨gb599, _, none⟩) NB584_599.out _).trans (((cell_far (p := ⟨gb599, _, none⟩) NB584_599.out _).trans (((cell_far (p := ⟨gb599, _, none⟩) NB584_599.out _).trans (hHeld.2.1)))))))))), ((cell_far (p := ⟨gb599, _, none⟩) NB584_599.out _).trans (((cell_far (p := ⟨gb599, _, none⟩) NB584_599.out _).trans (((cell_far (p := ⟨gb599, _, none⟩) NB584_599.out _).trans (((cell_far (p := ⟨gb599, _, none⟩) NB584_599.out _).trans (((cell_far (p := ⟨gb599, _, none⟩) NB584_599.out _).trans (hHeld.2.2.1)))))))))), ((cell_far (p := ⟨gb599, _, none⟩) NB584_599.out _).trans (((cell_far (p := ⟨gb599, _, none⟩) NB584_599.out _).trans (((cell_far (p := ⟨gb599, _, none⟩) NB584_599.out _).trans (((cell_far (p := ⟨gb599, _, none⟩) NB584_599.out _).trans (((cell_far (p := ⟨gb599, _, none⟩) NB584_599.out _).trans (hHeld.2.2.2.1)))))))))), ((cell_far (p := ⟨gb599, _, none⟩) NB584_599.out _).trans (((cell_far (p := ⟨gb599, _, none⟩) NB584_599.out _).trans (((cell_far (p := ⟨gb599, _, none⟩) NB584_599.out _).trans (((cell_far (p := ⟨gb599, _, none⟩) NB584_599.out _).trans (((cell_far (p := ⟨gb599, _, none⟩) NB584_599.out _).trans (hHeld.2.2.2.2.1)))))))))), ((cell_far (p := ⟨gb599, _, none⟩) NB585_599.out _).trans (((cell_far (p := ⟨gb599, _, none⟩) NB585_599.out _).trans (((cell_far (p := ⟨gb599, _, none⟩) NB585_599.out _).trans (((cell_far (p := ⟨gb599, _, none⟩) NB585_599.out _).trans (((cell_far (p := ⟨gb599, _, none⟩) NB585_599.out _).trans (hHeld.2.2.2.2.2.1)))))))))), ((cell_far (p := ⟨gb599, _, none⟩) NB585_599.out _).trans (((cell_far (p := ⟨gb599, _, none⟩) NB585_599.out _).trans (((cell_far (p := ⟨gb599, _, none⟩) NB585_599.out _).trans (((cell_far (p := ⟨gb599, _, none⟩) NB585_599.out _).trans (((cell_far (p := ⟨gb599, _, none⟩) NB585_599.out _).trans (hHeld.2.2.2.2.2.2.1)))))))))), ((cell_far (p := ⟨gb599, _, none⟩) NB585_599.out _).trans (((cell_far (p := ⟨gb599, _, none⟩) NB585_599.out _).trans (((cell_far (p := ⟨gb599, _, none⟩) NB585_599.out _).trans (((cell_far (p := ⟨gb599, _, none⟩) NB585_599.out _).trans (((cell_far (p := ⟨gb599, _, none⟩) NB585_599.out _).trans (hHeld.2.2.2.2.2.2.2.1)))))))))), ((cell_far (p := ⟨gb599, _, none⟩) NB585_599.out _).trans (((cell_far (p := ⟨gb599, _, none⟩) NB585_599.out _).trans (((cell_far (p := ⟨gb599, _, none⟩) NB585_599.out _).trans (((cell_far (p := ⟨gb599, _, none⟩) NB585_599.out _).trans (((cell_far (p := ⟨gb599, _, none⟩) NB585_599.out _).trans (hHeld.2.2.2.2.2.2.2.2.1)))))))))), ((cell_far (p := ⟨gb599, _, none⟩) NB585_599.out _).trans (((cell_far (p := ⟨gb599, _, none⟩) NB585_599.out _).trans (((cell_far (p := ⟨gb599, _, none⟩) NB585_599.out _).trans (((cell_far (p := ⟨gb599, _, none⟩) NB585_599.out _).trans (((cell_far (p := ⟨gb599, _, none⟩) NB585_599.out _).trans (hHeld.2.2.2.2.2.2.2.2.2))))))))))⟩ (fun hHeld => ?_)
               clear hK K
               refine one_ (i := 5) (N := none) #[true, true, true, true, true, true] rfl rfl (by kernel_rfl) (by decide) (fun K hK => ?_)
               have hs172 : w166.cell? ⟨gb600, 0, none⟩ = some (.int .i64 0) := (blk_cell BK600.out 0).trans rfl
               have hfs172 := blk_frozen BK600.out 0
               have hns172_0 := NB549_600.out
               have hns172_1 := NB550_600.out
               have hns172_2 := NB584_600.out
               have hns172_3 := NB585_600.out
               have hns172_4 := NB599_600.out
               have hms172_0 := NB600_549.out
               have hms172_1 := NB600_550.out
               have hms172_2 := NB600_584.out
               have hms172_3 := NB600_585.out
               have hms172_4 := NB600_599.out
               have hs173 : w166.cell? ⟨gb600, 1, none⟩ = some (.int .i64 0) := (blk_cell BK600.out 1).trans rfl
               have hfs173 := blk_frozen BK600.out 1
               have hns173_0 := NB549_600.out
               have hns173_1 := NB550_600.out
               have hns173_2 := NB584_600.out
               have hns173_3 := NB585_600.out
               have hns173_4 := NB599_600.out
               have hms173_0 := NB600_549.out
               have hms173_1 := NB600_550.out
               have hms173_2 := NB600_584.out
               have hms173_3 := NB600_585.out
               have hms173_4 := NB600_599.out
               have hs174 : w166.cell? ⟨gb600, 2, none⟩ = some (.int .i64 0) := (blk_cell BK600.out 2).trans rfl
               have hfs174 := blk_frozen BK600.out 2
               have hns174_0 := NB549_600.out
               have hns174_1 := NB550_600.out
               have hns174_2 := NB584_600.out
               have hns174_3 := NB585_600.out
               have hns174_4 := NB599_600.out
               have hms174_0 := NB600_549.out
               have hms174_1 := NB600_550.out
               have hms174_2 := NB600_584.out
               have hms174_3 := NB600_585.out
               have hms174_4 := NB600_599.out
               have hs175 : w166.cell? ⟨gb600, 3, none⟩ = some (.slice none 0 0) := (blk_cell BK600.out 3).trans rfl
               have hfs175 := blk_frozen BK600.out 3
               have hns175_0 := NB549_600.out
               have hns175_1 := NB550_600.out
               have hns175_2 := NB584_600.out
               have hns175_3 := NB585_600.out
               have hns175_4 := NB599_600.out
               have hms175_0 := NB600_549.out
               have hms175_1 := NB600_550.out
               have hms175_2 := NB600_584.out
               have hms175_3 := NB600_585.out
               have hms175_4 := NB600_599.out
               have hs176 : w166.cell? ⟨gb600, 4, none⟩ = some (.slice none 0 0) := (blk_cell BK600.out 4).trans rfl
               have hfs176 := blk_frozen BK600.out 4
               have hns176_0 := NB549_600.out
               have hns176_1 := NB550_600.out
               have hns176_2 := NB584_600.out
               have hns176_3 := NB585_600.out
               have hns176_4 := NB599_600.out
               have hms176_0 := NB600_549.out
               have hms176_1 := NB600_550.out
               have hms176_2 := NB600_584.out
               have hms176_3 := NB600_585.out
               have hms176_4 := NB600_599.out
               refine skip_ (w1 := ?_) (by rfl) rfl ?_ ?_
               rotate_left
               ·go_simp
                rfl
               refine hK.out _ _ ⟨((cell_far (p := ⟨gb600, _, none⟩) NB584_600.out _).trans (((cell_far (p := ⟨gb600, _, none⟩) NB584_600.out _).trans (((cell_far (p := ⟨gb600, _, none⟩) NB584_600.out _).trans (((cell_far (p := ⟨gb600, _, none⟩) NB584_600.out _).trans (((cell_far (p := ⟨gb600, _, none⟩) NB584_600.out _).trans (hHeld.1)))))))))), ((cell_far (p := ⟨gb600, _, none⟩) NB584_600.out _).trans (((cell_far (p := ⟨gb600, _, none⟩) NB584_600.out _).trans (((cell_far (p := ⟨gb600, _, none⟩) NB584_600.out _).trans (((cell_far (p := ⟨gb600, _, none⟩) NB584_600.out _).trans (((cell_far (p := ⟨gb600, _, none⟩) NB584_600.out _).trans (hHeld.2.1)))))))))), ((cell_far (p := ⟨gb600, _, none⟩) NB584_600.out _).trans (((cell_far (p := ⟨gb600, _, none⟩) NB584_600.out _).trans (((cell_far (p := ⟨gb600, _, none⟩) NB584_600.out _).trans (((cell_far (p := ⟨gb600, _, none⟩) NB584_600.out _).trans (((cell_far (p := ⟨gb600, _, none⟩) NB584_600.out _).trans (hHeld.2.2.1)))))))))), ((cell_far (p := ⟨gb600, _, none⟩) NB584_600.out _).trans (((cell_far (p := ⟨gb600, _, none⟩) NB584_600.out _).trans (((cell_far (p := ⟨gb600, _, none⟩) NB584_600.out _).trans (((cell_far (p := ⟨gb600, _, none⟩) NB584_600.out _).trans (((cell_far (p := ⟨gb600, _, none⟩) NB584_600.out _).trans (hHeld.2.2.2.1)))))))))), ((cell_far (p := ⟨gb600, _, none⟩) NB584_600.out _).trans (((cell_far (p := ⟨gb600, _, none⟩) NB584_600.out _).trans (((cell_far (p := ⟨gb600, _, none⟩) NB584_600.out _).trans (((cell_far (p := ⟨gb600, _, none⟩) NB584_600.out _).trans (((cell_far (p := ⟨gb600, _, none⟩) NB584_600.out _).trans (hHeld.2.2.2.2.1)))))))))), ((cell_far (p := ⟨gb600, _, none⟩) NB585_600.out _).trans (((cell_far (p := ⟨gb600, _, none⟩) NB585_600.out _).trans (((cell_far (p := ⟨gb600, _, none⟩) NB585_600.out _).trans (((cell_far (p := ⟨gb600, _, none⟩) NB585_600.out _).trans (((cell_far (p := ⟨gb600, _, none⟩) NB585_600.out _).trans (hHeld.2.2.2.2.2.1)))))))))), ((cell_far (p := ⟨gb600, _, none⟩) NB585_600.out _).trans (((cell_far (p := ⟨gb600, _, none⟩) NB585_600.out _).trans (((cell_far (p := ⟨gb600, _, none⟩) NB585_600.out _).trans (((cell_far (p := ⟨gb600, _, none⟩) NB585_600.out _).trans (((cell_far (p := ⟨gb600, _, none⟩) NB585_600.out _).trans (hHeld.2.2.2.2.2.2.1)))))))))), ((cell_far (p := ⟨gb600, _, none⟩) NB585_600.out _).trans (((cell_far (p := ⟨gb600, _, none⟩) NB585_600.out _).trans (((cell_far (p := ⟨gb600, _, none⟩) NB585_600.out _).trans (((cell_far (p := ⟨gb600, _, none⟩) NB585_600.out _).trans (((cell_far (p := ⟨gb600, _, none⟩) NB585_600.out _).trans (hHeld.2.2.2.2.2.2.2.1)))))))))), ((cell_far (p := ⟨gb600, _, none⟩) NB585_600.out _).trans (((cell_far (p := ⟨gb600, _, none⟩) NB585_600.out _).trans (((cell_far (p := ⟨gb600, _, none⟩) NB585_600.out _).trans (((cell_far (p := ⟨gb600, _, none⟩) NB585_600.out _).trans (((cell_far (p := ⟨gb600, _, none⟩) NB585_600.out _).trans (hHeld.2.2.2.2.2.2.2.2.1)))))))))), ((cell_far (p := ⟨gb600, _, none⟩) NB585_600.out _).trans (((cell_far (p := ⟨gb600, _, none⟩) NB585_600.out _).trans (((cell_far (p := ⟨gb600, _, none⟩) NB585_600.out _).trans (((cell_far (p := ⟨gb600, _, none⟩) NB585_600.out _).trans (((cell_far (p := ⟨gb600, _, none⟩) NB585_600.out _).trans (hHeld.2.2.2.2.2.2.2.2.2))))))))))⟩ (fun hHeld => ?_)
               clear hK K
               refine done_ (by kernel_rfl) ?_
               try go_wp2
               have n0_ : Aside0 (Kd.R (Kd.int .i64) 3 ((((((((((w166.setCell ⟨gb599, 0, none⟩ (.int .i64 t565)).setCell ⟨gb599, 1, none⟩ (.int .i64 t566)).setCell ⟨gb599, 2, none⟩ (.int .i64 t567)).setCell ⟨gb599, 3, none⟩ (.slice Ao54 t568.length co54)).setCell ⟨gb599, 4, none⟩ (.slice Ao55 t571.length co55)).setCell ⟨gb600, 0, none⟩ (.int .i64 t574)).setCell ⟨gb600, 1, none⟩ (.int .i64 t575)).setCell ⟨gb600, 2, none⟩ (.int .i64 t576)).setCell ⟨gb600, 3, none⟩ (.slice Ao59 t577.length co59)).setCell ⟨gb600, 4, none⟩ (.slice Ao60 t580.length co60)) w.heap.size (fun k_ => some k_ ≠ (.slice Ao55 t571.length co55 : Value).ownBlock ∧ some k_ ≠ (.slice Ao59 t577.length co59 : Value).ownBlock ∧ some k_ ≠ (.slice Ao60 t580.length co60 : Value).ownBlock) (.slice Ao54 t568.length co54) t568) := ⟨rs_ (ty_ (ty_ HO_585003.out BK599.out) BK600.out)⟩
               have n1_ : Aside0 (Kd.R (Kd.int .i64) 3 ((((((((((w166.setCell ⟨gb599, 0, none⟩ (.int .i64 t565)).setCell ⟨gb599, 1, none⟩ (.int .i64 t566)).setCell ⟨gb599, 2, none⟩ (.int .i64 t567)).setCell ⟨gb599, 3, none⟩ (.slice Ao54 t568.length co54)).setCell ⟨gb599, 4, none⟩ (.slice Ao55 t571.length co55)).setCell ⟨gb600, 0, none⟩ (.int .i64 t574)).setCell ⟨gb600, 1, none⟩ (.int .i64 t575)).setCell ⟨gb600, 2, none⟩ (.int .i64 t576)).setCell ⟨gb600, 3, none⟩ (.slice Ao59 t577.length co59)).setCell ⟨gb600, 4, none⟩ (.slice Ao60 t580.length co60)) w.heap.size (fun k_ => some k_ ≠ (.slice Ao54 t568.length co54 : Value).ownBlock ∧ some k_ ≠ (.slice Ao59 t577.length co59 : Value).ownBlock ∧ some k_ ≠ (.slice Ao60 t580.length co60 : Value).ownBlock) (.slice Ao55 t571.length co55) t571) := ⟨rs_ (ty_ (ty_ HO_585004.out BK599.out) BK600.out)⟩
               have n2_ : Aside0 (Kd.R (Kd.int .i64) 3 ((((((((((w166.setCell ⟨gb599, 0, none⟩ (.int .i64 t565)).setCell ⟨gb599, 1, none⟩ (.int .i64 t566)).setCell ⟨gb599, 2, none⟩ (.int .i64 t567)).setCell ⟨gb599, 3, none⟩ (.slice Ao54 t568.length co54)).setCell ⟨gb599, 4, none⟩ (.slice Ao55 t571.length co55)).setCell ⟨gb600, 0, none⟩ (.int .i64 t574)).setCell ⟨gb600, 1, none⟩ (.int .i64 t575)).setCell ⟨gb600, 2, none⟩ (.int .i64 t576)).setCell ⟨gb600, 3, none⟩ (.slice Ao59 t577.length co59)).setCell ⟨gb600, 4, none⟩ (.slice Ao60 t580.length co60)) w.heap.size (fun k_ => some k_ ≠ (.slice Ao54 t568.length co54 : Value).ownBlock ∧ some k_ ≠ (.slice Ao55 t571.length co55 : Value).ownBlock ∧ some k_ ≠ (.slice Ao60 t580.length co60 : Value).ownBlock) (.slice Ao59 t577.length co59) t577) := ⟨rs_ (ty_ (ty_ HO_586003.out BK599.out) BK600.out)⟩
               have n3_ : Aside0 (Kd.R (Kd.int .i64) 3 ((((((((((w166.setCell ⟨gb599, 0, none⟩ (.int .i64 t565)).setCell ⟨gb599, 1, none⟩ (.int .i64 t566)).setCell ⟨gb599, 2, none⟩ (.int .i64 t567)).setCell ⟨gb599, 3, none⟩ (.slice Ao54 t568.length co54)).setCell ⟨gb599, 4, none⟩ (.slice Ao55 t571.length co55)).setCell ⟨gb600, 0, none⟩ (.int .i64 t574)).setCell ⟨gb600, 1, none⟩ (.int .i64 t575)).setCell ⟨gb600, 2, none⟩ (.int .i64 t576)).setCell ⟨gb600, 3, none⟩ (.slice Ao59 t577.length co59)).setCell ⟨gb600, 4, none⟩ (.slice Ao60 t580.length co60)) w.heap.size (fun k_ => some k_ ≠ (.slice Ao54 t568.length co54 : Value).ownBlock ∧ some k_ ≠ (.slice Ao55 t571.length co55 : Value).ownBlock ∧ some k_ ≠ (.slice Ao59 t577.length co59 : Value).ownBlock) (.slice Ao60 t580.length co60) t580) := ⟨rs_ (ty_ (ty_ HO_586004.out BK599.out) BK600.out)⟩
               have n4_ : Aside0 (((((((((((w166.setCell ⟨gb599, 0, none⟩ (.int .i64 t565)).setCell ⟨gb599, 1, none⟩ (.int .i64 t566)).setCell ⟨gb599, 2, none⟩ (.int .i64 t567)).setCell ⟨gb599, 3, none⟩ (.slice Ao54 t568.length co54)).setCell ⟨gb599, 4, none⟩ (.slice Ao55 t571.length co55)).setCell ⟨gb600, 0, none⟩ (.int .i64 t574)).setCell ⟨gb600, 1, none⟩ (.int .i64 t575)).setCell ⟨gb600, 2, none⟩ (.int .i64 t576)).setCell ⟨gb600, 3, none⟩ (.slice Ao59 t577.length co59)).setCell ⟨gb600, 4, none⟩ (.slice Ao60 t580.length co60)).heap[gb549]? = some (.cells #[.slice A0_0 l0_0.length c0_0, .slice A0_1 l0_1.length c0_1] 25 (0, 0))) := ⟨bf_ BK549.out⟩
               have n5_ : Aside0 (((((((((((w166.setCell ⟨gb599, 0, none⟩ (.int .i64 t565)).setCell ⟨gb599, 1, none⟩ (.int .i64 t566)).setCell ⟨gb599, 2, none⟩ (.int .i64 t567)).setCell ⟨gb599, 3, none⟩ (.slice Ao54 t568.length co54)).setCell ⟨gb599, 4, none⟩ (.slice Ao55 t571.length co55)).setCell ⟨gb600, 0, none⟩ (.int .i64 t574)).setCell ⟨gb600, 1, none⟩ (.int .i64 t575)).setCell ⟨gb600, 2, none⟩ (.int .i64 t576)).setCell ⟨gb600, 3, none⟩ (.slice Ao59 t577.length co59)).setCell ⟨gb600, 4, none⟩ (.slice Ao60 t580.length co60)).heap[gb550]? = some (.cells #[.int .i64 a1_0, .int .i64 a1_1, .int .i64 a1_2, .slice A1_3 l1_3.length c1_3, .slice A1_4 l1_4.length c1_4] 30 (0, 0))) := ⟨bf_ BK550.out⟩
               have n6_ : Aside0 (((((((((((w166.setCell ⟨gb599, 0, none⟩ (.int .i64 t565)).setCell ⟨gb599, 1, none⟩ (.int .i64 t566)).setCell ⟨gb599, 2, none⟩ (.int .i64 t567)).setCell ⟨gb599, 3, none⟩ (.slice Ao54 t568.length co54)).setCell ⟨gb599, 4, none⟩ (.slice Ao55 t571.length co55)).setCell ⟨gb600, 0, none⟩ (.int .i64 t574)).setCell ⟨gb600, 1, none⟩ (.int .i64 t575)).setCell ⟨gb600, 2, none⟩ (.int .i64 t576)).setCell ⟨gb600, 3, none⟩ (.slice Ao59 t577.length co59)).setCell ⟨gb600, 4, none⟩ (.slice Ao60 t580.length co60)).heap[gb584]? = some (.cells #[.int .i64 t565, .int .i64 t566, .int .i64 t567, .slice Ao54 t568.length co54, .slice Ao55 t571.length co55] 30 (0, 0))) := ⟨bf_ BK584.out⟩
               have n7_ : Aside0 (((((((((((w166.setCell ⟨gb599, 0, none⟩ (.int .i64 t565)).setCell ⟨gb599, 1, none⟩ (.int .i64 t566)).setCell ⟨gb599, 2, none⟩ (.int .i64 t567)).setCell ⟨gb599, 3, none⟩ (.slice Ao54 t568.length co54)).setCell ⟨gb599, 4, none⟩ (.slice Ao55 t571.length co55)).setCell ⟨gb600, 0, none⟩ (.int .i64 t574)).setCell ⟨gb600, 1, none⟩ (.int .i64 t575)).setCell ⟨gb600, 2, none⟩ (.int .i64 t576)).setCell ⟨gb600, 3, none⟩ (.slice Ao59 t577.length co59)).setCell ⟨gb600, 4, none⟩ (.slice Ao60 t580.length co60)).heap[gb585]? = some (.cells #[.int .i64 t574, .int .i64 t575, .int .i64 t576, .slice Ao59 t577.length co59, .slice Ao60 t580.length co60] 30 (0, 0))) := ⟨bf_ BK585.out⟩
               have n8_ : Aside0 (((((((((((w166.setCell ⟨gb599, 0, none⟩ (.int .i64 t565)).setCell ⟨gb599, 1, none⟩ (.int .i64 t566)).setCell ⟨gb599, 2, none⟩ (.int .i64 t567)).setCell ⟨gb599, 3, none⟩ (.slice Ao54 t568.length co54)).setCell ⟨gb599, 4, none⟩ (.slice Ao55 t571.length co55)).setCell ⟨gb600, 0, none⟩ (.int .i64 t574)).setCell ⟨gb600, 1, none⟩ (.int .i64 t575)).setCell ⟨gb600, 2, none⟩ (.int .i64 t576)).setCell ⟨gb600, 3, none⟩ (.slice Ao59 t577.length co59)).setCell ⟨gb600, 4, none⟩ (.slice Ao60 t580.length co60)).heap[gb599]? = some (.cells #[.int .i64 t565, .int .i64 t566, .int .i64 t567, .slice Ao54 t568.length co54, .slice Ao55 t571.length co55] 35 (0, 0))) := ⟨bp_ BK599.out⟩
               have n9_ : Aside0 (((((((((((w166.setCell ⟨gb599, 0, none⟩ (.int .i64 t565)).setCell ⟨gb599, 1, none⟩ (.int .i64 t566)).setCell ⟨gb599, 2, none⟩ (.int .i64 t567)).setCell ⟨gb599, 3, none⟩ (.slice Ao54 t568.length co54)).setCell ⟨gb599, 4, none⟩ (.slice Ao55 t571.length co55)).setCell ⟨gb600, 0, none⟩ (.int .i64 t574)).setCell ⟨gb600, 1, none⟩ (.int .i64 t575)).setCell ⟨gb600, 2, none⟩ (.int .i64 t576)).setCell ⟨gb600, 3, none⟩ (.slice Ao59 t577.length co59)).setCell ⟨gb600, 4, none⟩ (.slice Ao60 t580.length co60)).heap[gb600]? = some (.cells #[.int .i64 t574, .int .i64 t575, .int .i64 t576, .slice Ao59 t577.length co59, .slice Ao60 t580.length co60] 35 (0, 0))) := ⟨bp_ BK600.out⟩
               have n10_ : Aside0 (Below w.heap.size w ((((((((((w166.setCell ⟨gb599, 0, none⟩ (.int .i64 t565)).setCell ⟨gb599, 1, none⟩ (.int .i64 t566)).setCell ⟨gb599, 2, none⟩ (.int .i64 t567)).setCell ⟨gb599, 3, none⟩ (.slice Ao54 t568.length co54)).setCell ⟨gb599, 4, none⟩ (.slice Ao55 t571.length co55)).setCell ⟨gb600, 0, none⟩ (.int .i64 t574)).setCell ⟨gb600, 1, none⟩ (.int .i64 t575)).setCell ⟨gb600, 2, none⟩ (.int .i64 t576)).setCell ⟨gb600, 3, none⟩ (.slice Ao59 t577.length co59)).setCell ⟨gb600, 4, none⟩ (.slice Ao60 t580.length co60))) := ⟨bl_⟩
               (try clear HO_585003)
               (try clear HO_585004)
               (try clear HO_586003)
               (try clear HO_586004)
               (try clear BK549)
               (try clear BK550)
               (try clear BK584)
               (try clear BK585)
               (try clear BK599)
               (try clear BK600)
               (try clear HB)
               generalize ((((((((((w166.setCell ⟨gb599, 0, none⟩ (.int .i64 t565)).setCell ⟨gb599, 1, none⟩ (.int .i64 t566)).setCell ⟨gb599, 2, none⟩ (.int .i64 t567)).setCell ⟨gb599, 3, none⟩ (.slice Ao54 t568.length co54)).setCell ⟨gb599, 4, none⟩ (.slice Ao55 t571.length co55)).setCell ⟨gb600, 0, none⟩ (.int .i64 t574)).setCell ⟨gb600, 1, none⟩ (.int .i64 t575)).setCell ⟨gb600, 2, none⟩ (.int .i64 t576)).setCell ⟨gb600, 3, none⟩ (.slice Ao59 t577.length co59)).setCell ⟨gb600, 4, none⟩ (.slice Ao60 t580.length co60)) = w177 at n0_ n1_ n2_ n3_ n4_ n5_ n6_ n7_ n8_ n9_ n10_ ⊢
               have HO_585003 := n0_
               have HO_585004 := n1_
               have HO_586003 := n2_
               have HO_586004 := n3_
               have BK549 := n4_
               have BK550 := n5_
               have BK584 := n6_
               have BK585 := n7_
               have BK599 := n8_
               have BK600 := n9_
               have HB := n10_
               clear n0_ n1_ n2_ n3_ n4_ n5_ n6_ n7_ n8_ n9_ n10_
               replace HO_585003 := Aside0.mk (Kd.R_drew HO_585003.out)
               replace HO_585004 := Aside0.mk (Kd.R_drew HO_585004.out)
               replace HO_586003 := Aside0.mk (Kd.R_drew HO_586003.out)
               replace HO_586004 := Aside0.mk (Kd.R_drew HO_586004.out)
               replace BK549 := Aside0.mk (blk_drew BK549.out)
               replace BK550 := Aside0.mk (blk_drew BK550.out)
               replace BK584 := Aside0.mk (blk_drew BK584.out)
               replace BK585 := Aside0.mk (blk_drew BK585.out)
               replace BK599 := Aside0.mk (blk_drew BK599.out)
               replace BK600 := Aside0.mk (blk_drew BK600.out)
               replace HB := Aside0.mk (below_drew1 HB.out)
               refine start_ (n := 13) (S := fun w' => w'.cell? ⟨gb549, 0, none⟩ = some (.slice A0_0 l0_0.length c0_0) ∧ w'.cell? ⟨gb549, 1, none⟩ = some (.slice A0_1 l0_1.length c0_1) ∧ w'.cell? ⟨gb550, 0, none⟩ = some (.int .i64 a1_0) ∧ w'.cell? ⟨gb550, 1, none⟩ = some (.int .i64 a1_1) ∧ w'.cell? ⟨gb550, 2, none⟩ = some (.int .i64 a1_2) ∧ w'.cell? ⟨gb550, 3, none⟩ = some (.slice A1_3 l1_3.length c1_3) ∧ w'.cell? ⟨gb550, 4, none⟩ = some (.slice A1_4 l1_4.length c1_4)) (ds := []) #[false, false, false, false, false, false, false, false, false, false, false, false, false] (by kernel_rfl) rfl rfl ⟨(blk_cell BK549.out 0).trans rfl, (blk_cell BK549.out 1).trans rfl, (blk_cell BK550.out 0).trans rfl, (blk_cell BK550.out 1).trans rfl, (blk_cell BK550.out 2).trans rfl, (blk_cell BK550.out 3).trans rfl, (blk_cell BK550.out 4).trans rfl⟩ (fun hHeld => ?_); refine with_tabW paymasterlaw14_WithholdStep.tab20 paymasterlaw14_WithholdStep.bits20 (fun HT_ HW_ => ?_)
               generalize w177.drew = w178 at HO_585003 HO_585004 HO_586003 HO_586004 BK549 BK550 BK584 BK585 BK599 BK600 HB hHeld ⊢
               refine pure_ (i := 2) (N := some 152) (v := ?_) (a' := ?_) #[false, false, true, false, false, false, false, false, false, false, false, false, false] rfl rfl (any_of HT_.out (by kernel_rfl)) (fun _ _ _ h => h) (Or.inl ⟨by rfl, ?_⟩) ?_ ?_
               rotate_left
               ·intro w'
                go_simp
                with_reducible rfl
               rotate_left
               ·simp only [Act.put, List.setIfInBounds_toArray, List.set_cons_zero, List.set_cons_succ, i64_w, i32_w]
                rfl
               refine pure_ (i := 4) (N := some 154) (v := ?_) (a' := ?_) #[false, false, true, false, true, false, false, false, false, false, false, false, false] rfl rfl (any_of HT_.out (by kernel_rfl)) (fun _ _ _ h => h) (Or.inl ⟨by rfl, ?_⟩) ?_ ?_
               rotate_left
               ·intro w'
                go_simp
                with_reducible rfl
               rotate_left
               ·simp only [Act.put, List.setIfInBounds_toArray, List.set_cons_zero, List.set_cons_succ, i64_w, i32_w]
                rfl
               refine pure_ (i := 6) (N := some 156) (v := ?_) (a' := ?_) #[false, false, true, false, true, false, true, false, false, false, false, false, false] rfl rfl (any_of HT_.out (by kernel_rfl)) (fun _ _ _ h => h) (Or.inl ⟨by rfl, ?_⟩) ?_ ?_
               rotate_left
               ·intro w'
                go_simp
                with_reducible rfl
               rotate_left
               ·simp only [Act.put, List.setIfInBounds_toArray, List.set_cons_zero, List.set_cons_succ, i64_w, i32_w]
                rfl
               refine pure_ (i := 8) (N := some 158) (v := ?_) (a' := ?_) #[false, false, true, false, true, false, true, false, true, false, false, false, false] rfl rfl (any_of HT_.out (by kernel_rfl)) (fun _ _ _ h => h) (Or.inl ⟨by rfl, ?_⟩) ?_ ?_
               rotate_left
               ·intro w'
                go_simp
                with_reducible rfl
               rotate_left
               ·simp only [Act.put, List.setIfInBounds_toArray, List.set_cons_zero, List.set_cons_succ, i64_w, i32_w]
                rfl
               refine take_ (i := 0) (N := some 150) (v := ?_) (a' := ?_) #[true, false, true, false, true, false, true, false, true, false, false, false, false] rfl rfl (take_ofW HT_.out HW_.out (by kernel_rfl)) (fun _ _ _ h => h) (Or.inl ⟨by rfl, ?_⟩) hHeld ?_ ?_
               rotate_left
               ·rintro w' ⟨s0, s1, s2, s3, s4, s5, s6⟩
                go_simp
                with_reducible rfl
               rotate_left
               ·simp only [Act.put, List.setIfInBounds_toArray, List.set_cons_zero, List.set_cons_succ, i64_w, i32_w]
                rfl
               refine take_ (i := 3) (N := some 153) (v := ?_) (a' := ?_) #[true, false, true, true, true, false, true, false, true, false, false, false, false] rfl rfl (take_ofW HT_.out HW_.out (by kernel_rfl)) (fun _ _ _ h => h) (Or.inl ⟨by rfl, ?_⟩) hHeld ?_ ?_
               rotate_left
               ·rintro w' ⟨s0, s1, s2, s3, s4, s5, s6⟩
                go_simp
                with_reducible rfl
               rotate_left
               ·simp only [Act.put, List.setIfInBounds_toArray, List.set_cons_zero, List.set_cons_succ, i64_w, i32_w]
                rfl
               refine pure_ (i := 5) (N := some 155) (v := ?_) (a' := ?_) #[true, false, true, true, true, true, true, false, true, false, false, false, false] rfl rfl (any_of HT_.out (by kernel_rfl)) (fun _ _ _ h => h) (Or.inl ⟨by rfl, ?_⟩) ?_ ?_
               rotate_left
               ·intro w'
                go_simp
                with_reducible rfl
               rotate_left
               ·simp only [Act.put, List.setIfInBounds_toArray, List.set_cons_zero, List.set_cons_succ, i64_w, i32_w]
                rfl
               refine take_ (i := 7) (N := some 157) (v := ?_) (a' := ?_) #[true, false, true, true, true, true, true, true, true, false, false, false, false] rfl rfl (take_ofW HT_.out HW_.out (by kernel_rfl)) (fun _ _ _ h => h) (Or.inl ⟨by rfl, ?_⟩) hHeld ?_ ?_
               rotate_left
               ·rintro w' ⟨s0, s1, s2, s3, s4, s5, s6⟩
                go_simp
                with_reducible rfl
               rotate_left
               ·simp only [Act.put, List.setIfInBounds_toArray, List.set_cons_zero, List.set_cons_succ, i64_w, i32_w]
                rfl
               refine pure_ (i := 9) (N := some 159) (v := ?_) (a' := ?_) #[true, false, true, true, true, true, true, true, true, true, false, false, false] rfl rfl (any_of HT_.out (by kernel_rfl)) (fun _ _ _ h => h) (Or.inl ⟨by rfl, ?_⟩) ?_ ?_
               rotate_left
               ·intro w'
                go_simp
                with_reducible rfl
               rotate_left
               ·simp only [Act.put, List.setIfInBounds_toArray, List.set_cons_zero, List.set_cons_succ, i64_w, i32_w]
                rfl
               refine join_ (σ := Value × Value × Value × Value × Nat) 1 #[true, true, true, true, true, true, true, true, true, true, true, true, false] (fun s_ => [(151, .agg #[s_.1, s_.2.1]), (160, .agg #[.int .i64 t610, .int .i64 t611, .int .i64 t612, s_.2.2.1, s_.2.2.2.1]), (18, .pointer (some ⟨s_.2.2.2.2, 0, none⟩))]) (fun s_ w' => (w'.cell? ⟨gb549, 0, none⟩ = some (.slice A0_0 l0_0.length c0_0) ∧ w'.cell? ⟨gb549, 1, none⟩ = some (.slice A0_1 l0_1.length c0_1) ∧ w'.cell? ⟨gb550, 0, none⟩ = some (.int .i64 a1_0) ∧ w'.cell? ⟨gb550, 1, none⟩ = some (.int .i64 a1_1) ∧ w'.cell? ⟨gb550, 2, none⟩ = some (.int .i64 a1_2) ∧ w'.cell? ⟨gb550, 3, none⟩ = some (.slice A1_3 l1_3.length c1_3) ∧ w'.cell? ⟨gb550, 4, none⟩ = some (.slice A1_4 l1_4.length c1_4)) ∧ (Kd.V k58 58 w' w.heap.size (fun k_ => some k_ ≠ (s_.2.1 : Value).ownBlock ∧ some k_ ≠ (s_.2.2.1 : Value).ownBlock ∧ some k_ ≠ (s_.2.2.2.1 : Value).ownBlock ∧ some k_ ≠ (.slice Ao54 t568.length co54 : Value).ownBlock ∧ some k_ ≠ (.slice Ao55 t571.length co55 : Value).ownBlock ∧ some k_ ≠ (.slice Ao59 t577.length co59 : Value).ownBlock ∧ some k_ ≠ (.slice Ao60 t580.length co60 : Value).ownBlock ∧ k_ ≠ gb549 ∧ k_ ≠ gb550 ∧ k_ ≠ gb584 ∧ k_ ≠ gb585 ∧ k_ ≠ gb599 ∧ k_ ≠ gb600 ∧ k_ ≠ s_.2.2.2.2) s_.1 t604) ∧ (Kd.R k68 68 w' w.heap.size (fun _ => True) s_.2.1 t607) ∧ (Kd.R (Kd.int .i64) 3 w' w.heap.size (fun k_ => some k_ ≠ (s_.2.2.2.1 : Value).ownBlock ∧ some k_ ≠ (.slice Ao54 t568.length co54 : Value).ownBlock ∧ some k_ ≠ (.slice Ao55 t571.length co55 : Value).ownBlock ∧ some k_ ≠ (.slice Ao59 t577.length co59 : Value).ownBlock ∧ some k_ ≠ (.slice Ao60 t580.length co60 : Value).ownBlock) s_.2.2.1 t613) ∧ (Kd.R (Kd.int .i64) 3 w' w.heap.size (fun k_ => some k_ ≠ (s_.2.2.1 : Value).ownBlock ∧ some k_ ≠ (.slice Ao54 t568.length co54 : Value).ownBlock ∧ some k_ ≠ (.slice Ao55 t571.length co55 : Value).ownBlock ∧ some k_ ≠ (.slice Ao59 t577.length co59 : Value).ownBlock ∧ some k_ ≠ (.slice Ao60 t580.length co60 : Value).ownBlock) s_.2.2.2.1 t616) ∧ (Kd.R (Kd.int .i64) 3 w' w.heap.size (fun k_ => some k_ ≠ (s_.2.2.1 : Value).ownBlock ∧ some k_ ≠ (s_.2.2.2.1 : Value).ownBlock ∧ some k_ ≠ (.slice Ao55 t571.length co55 : Value).ownBlock ∧ some k_ ≠ (.slice Ao59 t577.length co59 : Value).ownBlock ∧ some k_ ≠ (.slice Ao60 t580.length co60 : Value).ownBlock) (.slice Ao54 t568.length co54) t568) ∧ (Kd.R (Kd.int .i64) 3 w' w.heap.size (fun k_ => some k_ ≠ (s_.2.2.1 : Value).ownBlock ∧ some k_ ≠ (s_.2.2.2.1 : Value).ownBlock ∧ some k_ ≠ (.slice Ao54 t568.length co54 : Value).ownBlock ∧ some k_ ≠ (.slice Ao59 t577.length co59 : Value).ownBlock ∧ some k_ ≠ (.slice Ao60 t580.length co60 : Value).ownBlock) (.slice Ao55 t571.length co55) t571) ∧ (Kd.R (Kd.int .i64) 3 w' w.heap.size (fun k_ => some k_ ≠ (s_.2.2.1 : Value).ownBlock ∧ some k_ ≠ (s_.2.2.2.1 : Value).ownBlock ∧ some k_ ≠ (.slice Ao54 t568.length co54 : Value).ownBlock ∧ some k_ ≠ (.slice Ao55 t571.length co55 : Value).ownBlock ∧ some k_ ≠ (.slice Ao60 t580.length co60 : Value).ownBlock) (.slice Ao59 t577.length co59) t577) ∧ (Kd.R (Kd.int .i64) 3 w' w.heap.size (fun k_ => some k_ ≠ (s_.2.2.1 : Value).ownBlock ∧ some k_ ≠ (s_.2.2.2.1 : Value).ownBlock ∧ some k_ ≠ (.slice Ao54 t568.length co54 : Value).ownBlock ∧ some k_ ≠ (.slice Ao55 t571.length co55 : Value).ownBlock ∧ some k_ ≠ (.slice Ao59 t577.length co59 : Value).ownBlock) (.slice Ao60 t580.length co60) t580) ∧ (w'.heap[gb549]? = some (.cells #[.slice A0_0 l0_0.length c0_0, .slice A0_1 l0_1.length c0_1] 25 (0, 0))) ∧ (w'.heap[gb550]? = some (.cells #[.int .i64 a1_0, .int .i64 a1_1, .int .i64 a1_2, .slice A1_3 l1_3.length c1_3, .slice A1_4 l1_4.length c1_4] 30 (0, 0))) ∧ (w'.heap[gb584]? = some (.cells #[.int .i64 t565, .int .i64 t566, .int .i64 t567, .slice Ao54 t568.length co54, .slice Ao55 t571.length co55] 30 (0, 0))) ∧ (w'.heap[gb585]? = some (.cells #[.int .i64 t574, .int .i64 t575, .int .i64 t576, .slice Ao59 t577.length co59, .slice Ao60 t580.length co60] 30 (0, 0))) ∧ (w'.heap[gb599]? = some (.cells #[.int .i64 t565, .int .i64 t566, .int .i64 t567, .slice Ao54 t568.length co54, .slice Ao55 t571.length co55] 35 (0, 0))) ∧ (w'.heap[gb600]? = some (.cells #[.int .i64 t574, .int .i64 t575, .int .i64 t576, .slice Ao59 t577.length co59, .slice Ao60 t580.length co60] 35 (0, 0))) ∧ (w'.heap[s_.2.2.2.2]? = some (.cells #[.int .i64 0, .int .i64 0, .int .i64 0, .slice none 0 0, .slice none 0 0] 35 (0, 0))) ∧ (w.heap.size ≤ s_.2.2.2.2) ∧ (w.heap.size ≤ s_.2.2.2.2) ∧ (gb549 ≠ s_.2.2.2.2) ∧ (s_.2.2.2.2 ≠ gb549) ∧ (gb550 ≠ s_.2.2.2.2) ∧ (s_.2.2.2.2 ≠ gb550) ∧ (gb584 ≠ s_.2.2.2.2) ∧ (s_.2.2.2.2 ≠ gb584) ∧ (gb585 ≠ s_.2.2.2.2) ∧ (s_.2.2.2.2 ≠ gb585) ∧ (gb599 ≠ s_.2.2.2.2) ∧ (s_.2.2.2.2 ≠ gb599) ∧ (gb600 ≠ s_.2.2.2.2) ∧ (s_.2.2.2.2 ≠ gb600) ∧ (Below w.heap.size w w')) ?_ ?_
               rotate_left
               ·intro hCont
                refine two_ (i := 1) (j := 11) (Ni := some 151) (Nj := some 18) #[true, true, true, true, true, true, true, true, true, true, false, false, false] #[true, false, true, true, true, true, true, true, true, true, false, true, false] rfl rfl rfl rfl (two_of HT_.out (by kernel_rfl)) (by decide) (by decide) (fun K hK => ?_) (fun K hK => ?_)
                ·skip
                 refine goes_ Try.func16 (by kernel_rfl) rfl #[.agg #[.slice A0_0 l0_0.length c0_0, .slice A0_1 l0_1.length c0_1]] (by rfl) rfl rfl ga_ ?_
                 with_reducible refine (paymasterlaw14_ref.calls kj42 (fun k_ => k_ < w.heap.size) _ _ l0_0 _ _ l0_1 t604 t607 _ ?side1 ?side2 ?side3 A154.out).mono ?_
                 (case side1 => exact Kd.V_mk HC0_0.out (Kd.F_below (Kd.C_F k58_heap HR0_0.out) bl_))
                 (case side2 => exact kc_ (Kd.C_below HR0_1.out HB.out))
                 (case side3 => exact HC0_1.out)
                 rintro e w179 ⟨v605, v608, rfl, ho0, ho1, hb⟩
                 refine ⟨_, rfl, ?_⟩
                 have HO606 := Aside0.mk (Kd.V_lower (Kd.V_mono (ok' := fun k_ => some k_ ≠ (v608 : Value).ownBlock ∧ some k_ ≠ (.slice Ao54 t568.length co54 : Value).ownBlock ∧ some k_ ≠ (.slice Ao55 t571.length co55 : Value).ownBlock ∧ some k_ ≠ (.slice Ao59 t577.length co59 : Value).ownBlock ∧ some k_ ≠ (.slice Ao60 t580.length co60 : Value).ownBlock ∧ k_ ≠ gb549 ∧ k_ ≠ gb550 ∧ k_ ≠ gb584 ∧ k_ ≠ gb585 ∧ k_ ≠ gb599 ∧ k_ ≠ gb600) ho0 (fun k_ hk_ => ⟨hk_.2, Or.elim hk_.1 (fun hs_ => fun e_ => Nat.not_le.2 hs_ (Kd.R_base HO_585003.out k_ e_.symm)) (fun hn_ => (Kd.fresh' (Kd.R_lt (rq_ HO_585003.out)) k_ hn_)), Or.elim hk_.1 (fun hs_ => fun e_ => Nat.not_le.2 hs_ (Kd.R_base HO_585004.out k_ e_.symm)) (fun hn_ => (Kd.fresh' (Kd.R_lt (rq_ HO_585004.out)) k_ hn_)), Or.elim hk_.1 (fun hs_ => fun e_ => Nat.not_le.2 hs_ (Kd.R_base HO_586003.out k_ e_.symm)) (fun hn_ => (Kd.fresh' (Kd.R_lt (rq_ HO_586003.out)) k_ hn_)), Or.elim hk_.1 (fun hs_ => fun e_ => Nat.not_le.2 hs_ (Kd.R_base HO_586004.out k_ e_.symm)) (fun hn_ => (Kd.fresh' (Kd.R_lt (rq_ HO_586004.out)) k_ hn_)), Or.elim hk_.1 (fun hs_ => fun e_ => Nat.not_le.2 hs_ (by rw [e_]; exact GW549.out)) (fun hn_ => (Kd.freshB (g := gb549) (o := .cells #[.slice A0_0 l0_0.length c0_0, .slice A0_1 l0_1.length c0_1] 25 (0, 0)) (bq_ BK549.out) k_ hn_)), Or.elim hk_.1 (fun hs_ => fun e_ => Nat.not_le.2 hs_ (by rw [e_]; exact GW550.out)) (fun hn_ => (Kd.freshB (g := gb550) (o := .cells #[.int .i64 a1_0, .int .i64 a1_1, .int .i64 a1_2, .slice A1_3 l1_3.length c1_3, .slice A1_4 l1_4.length c1_4] 30 (0, 0)) (bq_ BK550.out) k_ hn_)), Or.elim hk_.1 (fun hs_ => fun e_ => Nat.not_le.2 hs_ (by rw [e_]; exact GW584.out)) (fun hn_ => (Kd.freshB (g := gb584) (o := .cells #[.int .i64 t565, .int .i64 t566, .int .i64 t567, .slice Ao54 t568.length co54, .slice Ao55 t571.length co55] 30 (0, 0)) (bq_ BK584.out) k_ hn_)), Or.elim hk_.1 (fun hs_ => fun e_ => Nat.not_le.2 hs_ (by rw [e_]; exact GW585.out)) (fun hn_ => (Kd.freshB (g := gb585) (o := .cells #[.int .i64 t574, .int .i64 t575, .int .i64 t576, .slice Ao59 t577.length co59, .slice Ao60 t580.length co60] 30 (0, 0)) (bq_ BK585.out) k_ hn_)), Or.elim hk_.1 (fun hs_ => fun e_ => Nat.not_le.2 hs_ (by rw [e_]; exact GW599.out)) (fun hn_ => (Kd.freshB (g := gb599) (o := .cells #[.int .i64 t565, .int .i64 t566, .int .i64 t567, .slice Ao54 t568.length co54, .slice Ao55 t571.length co55] 35 (0, 0)) (bq_ BK599.out) k_ hn_)), Or.elim hk_.1 (fun hs_ => fun e_ => Nat.not_le.2 hs_ (by rw [e_]; exact GW600.out)) (fun hn_ => (Kd.freshB (g := gb600) (o := .cells #[.int .i64 t574, .int .i64 t575, .int .i64 t576, .slice Ao59 t577.length co59, .slice Ao60 t580.length co60] 35 (0, 0)) (bq_ BK600.out) k_ hn_))⟩)) (below_size bl_))
                 have HO609 := Aside0.mk (Kd.R_lower (Kd.R_mono (ok' := fun k_ => True) ho1 (fun _ hk_ => trivial)) (below_size bl_))
                 replace HO_585003 := rl_ HO_585003.out hb
                 replace HO_585004 := rl_ HO_585004.out hb
                 replace HO_586003 := rl_ HO_586003.out hb
                 replace HO_586004 := rl_ HO_586004.out hb
                 replace BK549 := bb_ BK549.out hb
                 replace BK550 := bb_ BK550.out hb
                 replace BK584 := bb_ BK584.out hb
                 replace BK585 := bb_ BK585.out hb
                 replace BK599 := bb_ BK599.out hb
                 replace BK600 := bb_ BK600.out hb
                 replace HB := hs_ hb
                 (try clear hb)
                 (try clear hb2)
                 (try clear hk)
                 (try clear hi)
                 (try clear ho0)
                 (try clear ho1)
                 obtain ⟨Ao180, co180, eo180⟩ := Kd.V_slice HO606.out
                 (first | subst eo180 | (injection eo180 with f1_ f2_ f3_; have f4_ := f1_.symm; have f5_ := f3_.symm; clear f1_ f2_ f3_; subst f4_; subst f5_))
                 obtain ⟨Ao181, co181, eo181⟩ := Kd.R_slice HO609.out
                 (first | subst eo181 | (injection eo181 with f1_ f2_ f3_; have f4_ := f1_.symm; have f5_ := f3_.symm; clear f1_ f2_ f3_; subst f4_; subst f5_))
                 refine hK.out _ _ ⟨(blk_cell BK549.out 0).trans rfl, (blk_cell BK549.out 1).trans rfl, (blk_cell BK550.out 0).trans rfl, (blk_cell BK550.out 1).trans rfl, (blk_cell BK550.out 2).trans rfl, (blk_cell BK550.out 3).trans rfl, (blk_cell BK550.out 4).trans rfl⟩ (fun hHeld => ?_)
                 clear hK K
                 refine norm_ (a' := ?_) ?_ ?_
                 rotate_left
                 ·show Act.put _ (some 151) _ = _
                  simp only [Act.put, List.setIfInBounds_toArray, List.set_cons_zero, List.set_cons_succ, i64_w, i32_w]
                  rfl
                 refine two_ (i := 10) (j := 11) (Ni := some 160) (Nj := some 18) #[true, true, true, true, true, true, true, true, true, true, true, false, false] #[true, true, true, true, true, true, true, true, true, true, false, true, false] rfl rfl rfl rfl (two_of HT_.out (by kernel_rfl)) (by decide) (by decide) (fun K hK => ?_) (fun K hK => ?_)
                 ·skip
                  refine goes_ Try.func18 (by kernel_rfl) rfl #[.agg #[.slice Ao180 t604.length co180, .slice Ao181 t607.length co181], .int .i64 (wrap64 (a1_0 + a2)), .int .i64 (wrap64 (a1_1 + a3))] (by rfl) rfl rfl ga_ ?_
                  with_reducible refine (paymasterref14_Due.calls kj42 _ _ t604 _ _ t607 (wrap64 (a1_0 + a2)) (wrap64 (a1_1 + a3)) t610 t611 t612 t613 t616 _ ?side1 ?side2 ?side3 ?side4 A155.out).mono ?_
                  (case side1 => exact kc_ (Kd.V_reads' HO606.out).2.2)
                  (case side2 => exact (Kd.V_reads' HO606.out).2.1)
                  (case side3 => exact kc_ (Kd.R_reads' HO609.out).2.2)
                  (case side4 => exact (Kd.R_reads' HO609.out).2.1)
                  rintro e w182 ⟨v614, v617, rfl, ho0, ho1, hb⟩
                  refine ⟨_, rfl, ?_⟩
                  have HO615 := rl0_ (rn_ (rn_ (rn_ (rn_ ho0 HO_585003.out) HO_585004.out) HO_586003.out) HO_586004.out)
                  have HO618 := rl0_ (rn_ (rn_ (rn_ (rn_ ho1 HO_585003.out) HO_585004.out) HO_586003.out) HO_586004.out)
                  replace HO_585003 := ro2_ HO_585003.out hb ho0 ho1
                  replace HO_585004 := ro2_ HO_585004.out hb ho0 ho1
                  replace HO_586003 := ro2_ HO_586003.out hb ho0 ho1
                  replace HO_586004 := ro2_ HO_586004.out hb ho0 ho1
                  replace HO606 := Aside0.mk (Kd.V_mono (Kd.V_told (Kd.V_told (Kd.V_old (by refine kv_ ?_; exact HO606.out) hb) (Kd.R_base ho0)) (Kd.R_base ho1)) (fun _ h_ => h_.1))
                  replace HO609 := rl_ HO609.out hb
                  replace BK549 := bb_ BK549.out hb
                  replace BK550 := bb_ BK550.out hb
                  replace BK584 := bb_ BK584.out hb
                  replace BK585 := bb_ BK585.out hb
                  replace BK599 := bb_ BK599.out hb
                  replace BK600 := bb_ BK600.out hb
                  replace HB := hs_ hb
                  (try clear hb)
                  (try clear hb2)
                  (try clear hk)
                  (try clear hi)
                  (try clear ho0)
                  (try clear ho1)
                  refine hK.out _ _ ⟨(blk_cell BK549.out 0).trans rfl, (blk_cell BK549.out 1).trans rfl, (blk_cell BK550.out 0).trans rfl, (blk_cell BK550.out 1).trans rfl, (blk_cell BK550.out 2).trans rfl, (blk_cell BK550.out 3).trans rfl, (blk_cell BK550.out 4).trans rfl⟩ (fun hHeld => ?_)
                  clear hK K
                  refine norm_ (a' := ?_) ?_ ?_
                  rotate_left
                  ·show Act.put _ (some 160) _ = _
                   simp only [Act.put, List.setIfInBounds_toArray, List.set_cons_zero, List.set_cons_succ, i64_w, i32_w]
                   rfl
                  refine one_ (i := 11) (N := some 18) #[true, true, true, true, true, true, true, true, true, true, true, true, false] rfl rfl (one_of HT_.out (by kernel_rfl)) (by decide) (fun K hK => ?_)
                  refine box_step ?hg (N := 18) ?hd (cs := #[.int .i64 0, .int .i64 0, .int .i64 0, .slice none 0 0, .slice none 0 0]) (t := 35) ?hr ?_; (case hd => rfl); (case hg => rfl); (case hr => first | (go_simp; done) | (go_simp; rfl))
                  intro gb619 hg w183 hbox hb
                  have BK619 := Aside0.mk hbox
                  have GW619 := gs_ hg
                  have GE619 := gs_ hg
                  have NB549_619 := nl_ hg BK549.out
                  have NB619_549 := ng_ hg BK549.out
                  have NB550_619 := nl_ hg BK550.out
                  have NB619_550 := ng_ hg BK550.out
                  have NB584_619 := nl_ hg BK584.out
                  have NB619_584 := ng_ hg BK584.out
                  have NB585_619 := nl_ hg BK585.out
                  have NB619_585 := ng_ hg BK585.out
                  have NB599_619 := nl_ hg BK599.out
                  have NB619_599 := ng_ hg BK599.out
                  have NB600_619 := nl_ hg BK600.out
                  have NB619_600 := ng_ hg BK600.out
                  replace HO_585003 := rl_ HO_585003.out hb
                  replace HO_585004 := rl_ HO_585004.out hb
                  replace HO_586003 := rl_ HO_586003.out hb
                  replace HO_586004 := rl_ HO_586004.out hb
                  replace HO606 := Aside0.mk (Kd.V_below (Kd.V_elderB (by refine kv_ ?_; exact HO606.out) gb619 (Nat.le_of_eq hg.symm)) hb)
                  replace HO609 := rl_ HO609.out hb
                  replace HO615 := rl_ HO615.out hb
                  replace HO618 := rl_ HO618.out hb
                  replace BK549 := bb_ BK549.out hb
                  replace BK550 := bb_ BK550.out hb
                  replace BK584 := bb_ BK584.out hb
                  replace BK585 := bb_ BK585.out hb
                  replace BK599 := bb_ BK599.out hb
                  replace BK600 := bb_ BK600.out hb
                  replace HB := hs_ hb
                  clear hb hbox hg
                  refine hK.out _ _ ⟨(blk_cell BK549.out 0).trans rfl, (blk_cell BK549.out 1).trans rfl, (blk_cell BK550.out 0).trans rfl, (blk_cell BK550.out 1).trans rfl, (blk_cell BK550.out 2).trans rfl, (blk_cell BK550.out 3).trans rfl, (blk_cell BK550.out 4).trans rfl⟩ (fun hHeld => ?_)
                  clear hK K
                  refine norm_ (a' := ?_) ?_ ?_
                  rotate_left
                  ·show Act.put _ (some 18) _ = _
                   simp only [Act.put, List.setIfInBounds_toArray, List.set_cons_zero, List.set_cons_succ, i64_w, i32_w]
                   rfl
                  exact norm_ (by simp only [putAll, Act.put, List.setIfInBounds_toArray, List.set_cons_zero, List.set_cons_succ]) (hCont (.slice Ao180 t604.length co180, .slice Ao181 t607.length co181, v614, v617, gb619) _ ⟨hHeld, (by refine kv_ ?_; exact Kd.V_mono HO606.out (fun _ hk => ⟨hk.1.1.1.1, ⟨hk.1.1.2, ⟨hk.1.2, ⟨hk.1.1.1.2.1, ⟨hk.1.1.1.2.2.1, ⟨hk.1.1.1.2.2.2.1, ⟨hk.1.1.1.2.2.2.2.1, ⟨hk.1.1.1.2.2.2.2.2.1, ⟨hk.1.1.1.2.2.2.2.2.2.1, ⟨hk.1.1.1.2.2.2.2.2.2.2.1, ⟨hk.1.1.1.2.2.2.2.2.2.2.2.1, ⟨hk.1.1.1.2.2.2.2.2.2.2.2.2.1, ⟨hk.1.1.1.2.2.2.2.2.2.2.2.2.2, hk.2⟩⟩⟩⟩⟩⟩⟩⟩⟩⟩⟩⟩⟩)), (rs_ HO609.out), (rs_ HO615.out), (rs_ HO618.out), (rs_ HO_585003.out), (rs_ HO_585004.out), (rs_ HO_586003.out), (rs_ HO_586004.out), (bq_ BK549.out), (bq_ BK550.out), (bq_ BK584.out), (bq_ BK585.out), (bq_ BK599.out), (bq_ BK600.out), (bq_ BK619.out), GW619.out, GE619.out, NB549_619.out, NB619_549.out, NB550_619.out, NB619_550.out, NB584_619.out, NB619_584.out, NB585_619.out, NB619_585.out, NB599_619.out, NB619_599.out, NB600_619.out, NB619_600.out, bl_⟩)
                 ·skip
                  refine box_step ?hg (N := 18) ?hd (cs := #[.int .i64 0, .int .i64 0, .int .i64 0, .slice none 0 0, .slice none 0 0]) (t := 35) ?hr ?_; (case hd => rfl); (case hg => rfl); (case hr => first | (go_simp; done) | (go_simp; rfl))
                  intro gb619 hg w180 hbox hb
                  have BK619 := Aside0.mk hbox
                  have GW619 := gs_ hg
                  have GE619 := gs_ hg
                  have NB549_619 := nl_ hg BK549.out
                  have NB619_549 := ng_ hg BK549.out
                  have NB550_619 := nl_ hg BK550.out
                  have NB619_550 := ng_ hg BK550.out
                  have NB584_619 := nl_ hg BK584.out
                  have NB619_584 := ng_ hg BK584.out
                  have NB585_619 := nl_ hg BK585.out
                  have NB619_585 := ng_ hg BK585.out
                  have NB599_619 := nl_ hg BK599.out
                  have NB619_599 := ng_ hg BK599.out
                  have NB600_619 := nl_ hg BK600.out
                  have NB619_600 := ng_ hg BK600.out
                  replace HO_585003 := rl_ HO_585003.out hb
                  replace HO_585004 := rl_ HO_585004.out hb
                  replace HO_586003 := rl_ HO_586003.out hb
                  replace HO_586004 := rl_ HO_586004.out hb
                  replace HO606 := Aside0.mk (Kd.V_below (Kd.V_elderB (by refine kv_ ?_; exact HO606.out) gb619 (Nat.le_of_eq hg.symm)) hb)
                  replace HO609 := rl_ HO609.out hb
                  replace BK549 := bb_ BK549.out hb
                  replace BK550 := bb_ BK550.out hb
                  replace BK584 := bb_ BK584.out hb
                  replace BK585 := bb_ BK585.out hb
                  replace BK599 := bb_ BK599.out hb
                  replace BK600 := bb_ BK600.out hb
                  replace HB := hs_ hb
                  clear hb hbox hg
                  obtain ⟨Ao181, co181, eo181⟩ := Kd.V_slice HO606.out
                  (first | subst eo181 | (injection eo181 with f1_ f2_ f3_; have f4_ := f1_.symm; have f5_ := f3_.symm; clear f1_ f2_ f3_; subst f4_; subst f5_))
                  obtain ⟨Ao182, co182, eo182⟩ := Kd.R_slice HO609.out
                  (first | subst eo182 | (injection eo182 with f1_ f2_ f3_; have f4_ := f1_.symm; have f5_ := f3_.symm; clear f1_ f2_ f3_; subst f4_; subst f5_))
                  refine hK.out _ _ ⟨(blk_cell BK549.out 0).trans rfl, (blk_cell BK549.out 1).trans rfl, (blk_cell BK550.out 0).trans rfl, (blk_cell BK550.out 1).trans rfl, (blk_cell BK550.out 2).trans rfl, (blk_cell BK550.out 3).trans rfl, (blk_cell BK550.out 4).trans rfl⟩ (fun hHeld => ?_)
                  clear hK K
                  refine norm_ (a' := ?_) ?_ ?_
                  rotate_left
                  ·show Act.put _ (some 18) _ = _
                   simp only [Act.put, List.setIfInBounds_toArray, List.set_cons_zero, List.set_cons_succ, i64_w, i32_w]
                   rfl
                  refine one_ (i := 10) (N := some 160) #[true, true, true, true, true, true, true, true, true, true, true, true, false] rfl rfl (one_of HT_.out (by kernel_rfl)) (by decide) (fun K hK => ?_)
                  refine goes_ Try.func18 (by kernel_rfl) rfl #[.agg #[.slice Ao181 t604.length co181, .slice Ao182 t607.length co182], .int .i64 (wrap64 (a1_0 + a2)), .int .i64 (wrap64 (a1_1 + a3))] (by rfl) rfl rfl ga_ ?_
                  with_reducible refine (paymasterref14_Due.calls kj42 _ _ t604 _ _ t607 (wrap64 (a1_0 + a2)) (wrap64 (a1_1 + a3)) t610 t611 t612 t613 t616 _ ?side1 ?side2 ?side3 ?side4 A155.out).mono ?_
                  (case side1 => exact kc_ (Kd.V_reads' HO606.out).2.2)
                  (case side2 => exact (Kd.V_reads' HO606.out).2.1)
                  (case side3 => exact kc_ (Kd.R_reads' HO609.out).2.2)
                  (case side4 => exact (Kd.R_reads' HO609.out).2.1)
                  rintro e w183 ⟨v614, v617, rfl, ho0, ho1, hb⟩
                  refine ⟨_, rfl, ?_⟩
                  have HO615 := rl0_ (rn_ (rn_ (rn_ (rn_ ho0 HO_585003.out) HO_585004.out) HO_586003.out) HO_586004.out)
                  have HO618 := rl0_ (rn_ (rn_ (rn_ (rn_ ho1 HO_585003.out) HO_585004.out) HO_586003.out) HO_586004.out)
                  replace HO_585003 := ro2_ HO_585003.out hb ho0 ho1
                  replace HO_585004 := ro2_ HO_585004.out hb ho0 ho1
                  replace HO_586003 := ro2_ HO_586003.out hb ho0 ho1
                  replace HO_586004 := ro2_ HO_586004.out hb ho0 ho1
                  replace HO606 := Aside0.mk (Kd.V_mono (Kd.V_told (Kd.V_told (Kd.V_old (by refine kv_ ?_; exact HO606.out) hb) (Kd.R_base ho0)) (Kd.R_base ho1)) (fun _ h_ => h_.1))
                  replace HO609 := rl_ HO609.out hb
                  replace BK549 := bb_ BK549.out hb
                  replace BK550 := bb_ BK550.out hb
                  replace BK584 := bb_ BK584.out hb
                  replace BK585 := bb_ BK585.out hb
                  replace BK599 := bb_ BK599.out hb
                  replace BK600 := bb_ BK600.out hb
                  replace BK619 := bb_ BK619.out hb
                  replace HB := hs_ hb
                  (try clear hb)
                  (try clear hb2)
                  (try clear hk)
                  (try clear hi)
                  (try clear ho0)
                  (try clear ho1)
                  refine hK.out _ _ ⟨(blk_cell BK549.out 0).trans rfl, (blk_cell BK549.out 1).trans rfl, (blk_cell BK550.out 0).trans rfl, (blk_cell BK550.out 1).trans rfl, (blk_cell BK550.out 2).trans rfl, (blk_cell BK550.out 3).trans rfl, (blk_cell BK550.out 4).trans rfl⟩ (fun hHeld => ?_)
                  clear hK K
                  refine norm_ (a' := ?_) ?_ ?_
                  rotate_left
                  ·show Act.put _ (some 160) _ = _
                   simp only [Act.put, List.setIfInBounds_toArray, List.set_cons_zero, List.set_cons_succ, i64_w, i32_w]
                   rfl
                  exact norm_ (by simp only [putAll, Act.put, List.setIfInBounds_toArray, List.set_cons_zero, List.set_cons_succ]) (hCont (.slice Ao181 t604.length co181, .slice Ao182 t607.length co182, v614, v617, gb619) _ ⟨hHeld, (by refine kv_ ?_; exact Kd.V_mono HO606.out (fun _ hk => ⟨hk.1.1.1.1, ⟨hk.1.2, ⟨hk.2, ⟨hk.1.1.1.2.1, ⟨hk.1.1.1.2.2.1, ⟨hk.1.1.1.2.2.2.1, ⟨hk.1.1.1.2.2.2.2.1, ⟨hk.1.1.1.2.2.2.2.2.1, ⟨hk.1.1.1.2.2.2.2.2.2.1, ⟨hk.1.1.1.2.2.2.2.2.2.2.1, ⟨hk.1.1.1.2.2.2.2.2.2.2.2.1, ⟨hk.1.1.1.2.2.2.2.2.2.2.2.2.1, ⟨hk.1.1.1.2.2.2.2.2.2.2.2.2.2, hk.1.1.2⟩⟩⟩⟩⟩⟩⟩⟩⟩⟩⟩⟩⟩)), (rs_ HO609.out), (rs_ HO615.out), (rs_ HO618.out), (rs_ HO_585003.out), (rs_ HO_585004.out), (rs_ HO_586003.out), (rs_ HO_586004.out), (bq_ BK549.out), (bq_ BK550.out), (bq_ BK584.out), (bq_ BK585.out), (bq_ BK599.out), (bq_ BK600.out), (bq_ BK619.out), GW619.out, GE619.out, NB549_619.out, NB619_549.out, NB550_619.out, NB619_550.out, NB584_619.out, NB619_584.out, NB585_619.out, NB619_585.out, NB599_619.out, NB619_599.out, NB600_619.out, NB619_600.out, bl_⟩)
                ·skip
                 refine box_step ?hg (N := 18) ?hd (cs := #[.int .i64 0, .int .i64 0, .int .i64 0, .slice none 0 0, .slice none 0 0]) (t := 35) ?hr ?_; (case hd => rfl); (case hg => rfl); (case hr => first | (go_simp; done) | (go_simp; rfl))
                 intro gb619 hg w179 hbox hb
                 have BK619 := Aside0.mk hbox
                 have GW619 := gs_ hg
                 have GE619 := gs_ hg
                 have NB549_619 := nl_ hg BK549.out
                 have NB619_549 := ng_ hg BK549.out
                 have NB550_619 := nl_ hg BK550.out
                 have NB619_550 := ng_ hg BK550.out
                 have NB584_619 := nl_ hg BK584.out
                 have NB619_584 := ng_ hg BK584.out
                 have NB585_619 := nl_ hg BK585.out
                 have NB619_585 := ng_ hg BK585.out
                 have NB599_619 := nl_ hg BK599.out
                 have NB619_599 := ng_ hg BK599.out
                 have NB600_619 := nl_ hg BK600.out
                 have NB619_600 := ng_ hg BK600.out
                 replace HO_585003 := rl_ HO_585003.out hb
                 replace HO_585004 := rl_ HO_585004.out hb
                 replace HO_586003 := rl_ HO_586003.out hb
                 replace HO_586004 := rl_ HO_586004.out hb
                 replace BK549 := bb_ BK549.out hb
                 replace BK550 := bb_ BK550.out hb
                 replace BK584 := bb_ BK584.out hb
                 replace BK585 := bb_ BK585.out hb
                 replace BK599 := bb_ BK599.out hb
                 replace BK600 := bb_ BK600.out hb
                 replace HB := hs_ hb
                 clear hb hbox hg
                 refine hK.out _ _ ⟨(blk_cell BK549.out 0).trans rfl, (blk_cell BK549.out 1).trans rfl, (blk_cell BK550.out 0).trans rfl, (blk_cell BK550.out 1).trans rfl, (blk_cell BK550.out 2).trans rfl, (blk_cell BK550.out 3).trans rfl, (blk_cell BK550.out 4).trans rfl⟩ (fun hHeld => ?_)
                 clear hK K
                 refine norm_ (a' := ?_) ?_ ?_
                 rotate_left
                 ·show Act.put _ (some 18) _ = _
                  simp only [Act.put, List.setIfInBounds_toArray, List.set_cons_zero, List.set_cons_succ, i64_w, i32_w]
                  rfl
                 refine one_ (i := 1) (N := some 151) #[true, true, true, true, true, true, true, true, true, true, false, true, false] rfl rfl (one_of HT_.out (by kernel_rfl)) (by decide) (fun K hK => ?_)
                 refine goes_ Try.func16 (by kernel_rfl) rfl #[.agg #[.slice A0_0 l0_0.length c0_0, .slice A0_1 l0_1.length c0_1]] (by rfl) rfl rfl ga_ ?_
                 with_reducible refine (paymasterlaw14_ref.calls kj42 (fun k_ => k_ < w.heap.size) _ _ l0_0 _ _ l0_1 t604 t607 _ ?side1 ?side2 ?side3 A154.out).mono ?_
                 (case side1 => exact Kd.V_mk HC0_0.out (Kd.F_below (Kd.C_F k58_heap HR0_0.out) bl_))
                 (case side2 => exact kc_ (Kd.C_below HR0_1.out HB.out))
                 (case side3 => exact HC0_1.out)
                 rintro e w180 ⟨v605, v608, rfl, ho0, ho1, hb⟩
                 refine ⟨_, rfl, ?_⟩
                 have HO606 := Aside0.mk (Kd.V_lower (Kd.V_mono (ok' := fun k_ => some k_ ≠ (v608 : Value).ownBlock ∧ some k_ ≠ (.slice Ao54 t568.length co54 : Value).ownBlock ∧ some k_ ≠ (.slice Ao55 t571.length co55 : Value).ownBlock ∧ some k_ ≠ (.slice Ao59 t577.length co59 : Value).ownBlock ∧ some k_ ≠ (.slice Ao60 t580.length co60 : Value).ownBlock ∧ k_ ≠ gb549 ∧ k_ ≠ gb550 ∧ k_ ≠ gb584 ∧ k_ ≠ gb585 ∧ k_ ≠ gb599 ∧ k_ ≠ gb600 ∧ k_ ≠ gb619) ho0 (fun k_ hk_ => ⟨hk_.2, Or.elim hk_.1 (fun hs_ => fun e_ => Nat.not_le.2 hs_ (Kd.R_base HO_585003.out k_ e_.symm)) (fun hn_ => (Kd.fresh' (Kd.R_lt (rq_ HO_585003.out)) k_ hn_)), Or.elim hk_.1 (fun hs_ => fun e_ => Nat.not_le.2 hs_ (Kd.R_base HO_585004.out k_ e_.symm)) (fun hn_ => (Kd.fresh' (Kd.R_lt (rq_ HO_585004.out)) k_ hn_)), Or.elim hk_.1 (fun hs_ => fun e_ => Nat.not_le.2 hs_ (Kd.R_base HO_586003.out k_ e_.symm)) (fun hn_ => (Kd.fresh' (Kd.R_lt (rq_ HO_586003.out)) k_ hn_)), Or.elim hk_.1 (fun hs_ => fun e_ => Nat.not_le.2 hs_ (Kd.R_base HO_586004.out k_ e_.symm)) (fun hn_ => (Kd.fresh' (Kd.R_lt (rq_ HO_586004.out)) k_ hn_)), Or.elim hk_.1 (fun hs_ => fun e_ => Nat.not_le.2 hs_ (by rw [e_]; exact GW549.out)) (fun hn_ => (Kd.freshB (g := gb549) (o := .cells #[.slice A0_0 l0_0.length c0_0, .slice A0_1 l0_1.length c0_1] 25 (0, 0)) (bq_ BK549.out) k_ hn_)), Or.elim hk_.1 (fun hs_ => fun e_ => Nat.not_le.2 hs_ (by rw [e_]; exact GW550.out)) (fun hn_ => (Kd.freshB (g := gb550) (o := .cells #[.int .i64 a1_0, .int .i64 a1_1, .int .i64 a1_2, .slice A1_3 l1_3.length c1_3, .slice A1_4 l1_4.length c1_4] 30 (0, 0)) (bq_ BK550.out) k_ hn_)), Or.elim hk_.1 (fun hs_ => fun e_ => Nat.not_le.2 hs_ (by rw [e_]; exact GW584.out)) (fun hn_ => (Kd.freshB (g := gb584) (o := .cells #[.int .i64 t565, .int .i64 t566, .int .i64 t567, .slice Ao54 t568.length co54, .slice Ao55 t571.length co55] 30 (0, 0)) (bq_ BK584.out) k_ hn_)), Or.elim hk_.1 (fun hs_ => fun e_ => Nat.not_le.2 hs_ (by rw [e_]; exact GW585.out)) (fun hn_ => (Kd.freshB (g := gb585) (o := .cells #[.int .i64 t574, .int .i64 t575, .int .i64 t576, .slice Ao59 t577.length co59, .slice Ao60 t580.length co60] 30 (0, 0)) (bq_ BK585.out) k_ hn_)), Or.elim hk_.1 (fun hs_ => fun e_ => Nat.not_le.2 hs_ (by rw [e_]; exact GW599.out)) (fun hn_ => (Kd.freshB (g := gb599) (o := .cells #[.int .i64 t565, .int .i64 t566, .int .i64 t567, .slice Ao54 t568.length co54, .slice Ao55 t571.length co55] 35 (0, 0)) (bq_ BK599.out) k_ hn_)), Or.elim hk_.1 (fun hs_ => fun e_ => Nat.not_le.2 hs_ (by rw [e_]; exact GW600.out)) (fun hn_ => (Kd.freshB (g := gb600) (o := .cells #[.int .i64 t574, .int .i64 t575, .int .i64 t576, .slice Ao59 t577.length co59, .slice Ao60 t580.length co60] 35 (0, 0)) (bq_ BK600.out) k_ hn_)), Or.elim hk_.1 (fun hs_ => fun e_ => Nat.not_le.2 hs_ (by rw [e_]; exact GW619.out)) (fun hn_ => (Kd.freshB (g := gb619) (o := .cells #[.int .i64 0, .int .i64 0, .int .i64 0, .slice none 0 0, .slice none 0 0] 35 (0, 0)) (bq_ BK619.out) k_ hn_))⟩)) (below_size bl_))
                 have HO609 := Aside0.mk (Kd.R_lower (Kd.R_mono (ok' := fun k_ => True) ho1 (fun _ hk_ => trivial)) (below_size bl_))
                 replace HO_585003 := rl_ HO_585003.out hb
                 replace HO_585004 := rl_ HO_585004.out hb
                 replace HO_586003 := rl_ HO_586003.out hb
                 replace HO_586004 := rl_ HO_586004.out hb
                 replace BK549 := bb_ BK549.out hb
                 replace BK550 := bb_ BK550.out hb
                 replace BK584 := bb_ BK584.out hb
                 replace BK585 := bb_ BK585.out hb
                 replace BK599 := bb_ BK599.out hb
                 replace BK600 := bb_ BK600.out hb
                 replace BK619 := bb_ BK619.out hb
                 replace HB := hs_ hb
                 (try clear hb)
                 (try clear hb2)
                 (try clear hk)
                 (try clear hi)
                 (try clear ho0)
                 (try clear ho1)
                 obtain ⟨Ao181, co181, eo181⟩ := Kd.V_slice HO606.out
                 (first | subst eo181 | (injection eo181 with f1_ f2_ f3_; have f4_ := f1_.symm; have f5_ := f3_.symm; clear f1_ f2_ f3_; subst f4_; subst f5_))
                 obtain ⟨Ao182, co182, eo182⟩ := Kd.R_slice HO609.out
                 (first | subst eo182 | (injection eo182 with f1_ f2_ f3_; have f4_ := f1_.symm; have f5_ := f3_.symm; clear f1_ f2_ f3_; subst f4_; subst f5_))
                 refine hK.out _ _ ⟨(blk_cell BK549.out 0).trans rfl, (blk_cell BK549.out 1).trans rfl, (blk_cell BK550.out 0).trans rfl, (blk_cell BK550.out 1).trans rfl, (blk_cell BK550.out 2).trans rfl, (blk_cell BK550.out 3).trans rfl, (blk_cell BK550.out 4).trans rfl⟩ (fun hHeld => ?_)
                 clear hK K
                 refine norm_ (a' := ?_) ?_ ?_
                 rotate_left
                 ·show Act.put _ (some 151) _ = _
                  simp only [Act.put, List.setIfInBounds_toArray, List.set_cons_zero, List.set_cons_succ, i64_w, i32_w]
                  rfl
                 refine one_ (i := 10) (N := some 160) #[true, true, true, true, true, true, true, true, true, true, true, true, false] rfl rfl (one_of HT_.out (by kernel_rfl)) (by decide) (fun K hK => ?_)
                 refine goes_ Try.func18 (by kernel_rfl) rfl #[.agg #[.slice Ao181 t604.length co181, .slice Ao182 t607.length co182], .int .i64 (wrap64 (a1_0 + a2)), .int .i64 (wrap64 (a1_1 + a3))] (by rfl) rfl rfl ga_ ?_
                 with_reducible refine (paymasterref14_Due.calls kj42 _ _ t604 _ _ t607 (wrap64 (a1_0 + a2)) (wrap64 (a1_1 + a3)) t610 t611 t612 t613 t616 _ ?side1 ?side2 ?side3 ?side4 A155.out).mono ?_
                 (case side1 => exact kc_ (Kd.V_reads' HO606.out).2.2)
                 (case side2 => exact (Kd.V_reads' HO606.out).2.1)
                 (case side3 => exact kc_ (Kd.R_reads' HO609.out).2.2)
                 (case side4 => exact (Kd.R_reads' HO609.out).2.1)
                 rintro e w183 ⟨v614, v617, rfl, ho0, ho1, hb⟩
                 refine ⟨_, rfl, ?_⟩
                 have HO615 := rl0_ (rn_ (rn_ (rn_ (rn_ ho0 HO_585003.out) HO_585004.out) HO_586003.out) HO_586004.out)
                 have HO618 := rl0_ (rn_ (rn_ (rn_ (rn_ ho1 HO_585003.out) HO_585004.out) HO_586003.out) HO_586004.out)
                 replace HO_585003 := ro2_ HO_585003.out hb ho0 ho1
                 replace HO_585004 := ro2_ HO_585004.out hb ho0 ho1
                 replace HO_586003 := ro2_ HO_586003.out hb ho0 ho1
                 replace HO_586004 := ro2_ HO_586004.out hb ho0 ho1
                 replace HO606 := Aside0.mk (Kd.V_mono (Kd.V_told (Kd.V_told (Kd.V_old (by refine kv_ ?_; exact HO606.out) hb) (Kd.R_base ho0)) (Kd.R_base ho1)) (fun _ h_ => h_.1))
                 replace HO609 := rl_ HO609.out hb
                 replace BK549 := bb_ BK549.out hb
                 replace BK550 := bb_ BK550.out hb
                 replace BK584 := bb_ BK584.out hb
                 replace BK585 := bb_ BK585.out hb
                 replace BK599 := bb_ BK599.out hb
                 replace BK600 := bb_ BK600.out hb
                 replace BK619 := bb_ BK619.out hb
                 replace HB := hs_ hb
                 (try clear hb)
                 (try clear hb2)
                 (try clear hk)
                 (try clear hi)
                 (try clear ho0)
                 (try clear ho1)
                 refine hK.out _ _ ⟨(blk_cell BK549.out 0).trans rfl, (blk_cell BK549.out 1).trans rfl, (blk_cell BK550.out 0).trans rfl, (blk_cell BK550.out 1).trans rfl, (blk_cell BK550.out 2).trans rfl, (blk_cell BK550.out 3).trans rfl, (blk_cell BK550.out 4).trans rfl⟩ (fun hHeld => ?_)
                 clear hK K
                 refine norm_ (a' := ?_) ?_ ?_
                 rotate_left
                 ·show Act.put _ (some 160) _ = _
                  simp only [Act.put, List.setIfInBounds_toArray, List.set_cons_zero, List.set_cons_succ, i64_w, i32_w]
                  rfl
                 exact norm_ (by simp only [putAll, Act.put, List.setIfInBounds_toArray, List.set_cons_zero, List.set_cons_succ]) (hCont (.slice Ao181 t604.length co181, .slice Ao182 t607.length co182, v614, v617, gb619) _ ⟨hHeld, (by refine kv_ ?_; exact Kd.V_mono HO606.out (fun _ hk => ⟨hk.1.1.1, ⟨hk.1.2, ⟨hk.2, ⟨hk.1.1.2.1, ⟨hk.1.1.2.2.1, ⟨hk.1.1.2.2.2.1, ⟨hk.1.1.2.2.2.2.1, ⟨hk.1.1.2.2.2.2.2.1, ⟨hk.1.1.2.2.2.2.2.2.1, ⟨hk.1.1.2.2.2.2.2.2.2.1, ⟨hk.1.1.2.2.2.2.2.2.2.2.1, ⟨hk.1.1.2.2.2.2.2.2.2.2.2.1, ⟨hk.1.1.2.2.2.2.2.2.2.2.2.2.1, hk.1.1.2.2.2.2.2.2.2.2.2.2.2⟩⟩⟩⟩⟩⟩⟩⟩⟩⟩⟩⟩⟩)), (rs_ HO609.out), (rs_ HO615.out), (rs_ HO618.out), (rs_ HO_585003.out), (rs_ HO_585004.out), (rs_ HO_586003.out), (rs_ HO_586004.out), (bq_ BK549.out), (bq_ BK550.out), (bq_ BK584.out), (bq_ BK585.out), (bq_ BK599.out), (bq_ BK600.out), (bq_ BK619.out), GW619.out, GE619.out, NB549_619.out, NB619_549.out, NB550_619.out, NB619_550.out, NB584_619.out, NB619_584.out, NB585_619.out, NB619_585.out, NB599_619.out, NB619_599.out, NB600_619.out, NB619_600.out, bl_⟩)
               rintro ⟨v605, v608, v614, v617, gb619⟩ w184 ⟨hS_, h0_, h1_, h2_, h3_, h4_, h5_, h6_, h7_, h8_, h9_, h10_, h11_, h12_, h13_, h14_, h15_, h16_, h17_, h18_, h19_, h20_, h21_, h22_, h23_, h24_, h25_, h26_, h27_, h28_, h29_⟩
               have HO606 : Aside0 (Kd.V k58 58 w184 w.heap.size (fun k_ => some k_ ≠ (v608 : Value).ownBlock ∧ some k_ ≠ (v614 : Value).ownBlock ∧ some k_ ≠ (v617 : Value).ownBlock ∧ some k_ ≠ (.slice Ao54 t568.length co54 : Value).ownBlock ∧ some k_ ≠ (.slice Ao55 t571.length co55 : Value).ownBlock ∧ some k_ ≠ (.slice Ao59 t577.length co59 : Value).ownBlock ∧ some k_ ≠ (.slice Ao60 t580.length co60 : Value).ownBlock ∧ k_ ≠ gb549 ∧ k_ ≠ gb550 ∧ k_ ≠ gb584 ∧ k_ ≠ gb585 ∧ k_ ≠ gb599 ∧ k_ ≠ gb600 ∧ k_ ≠ gb619) v605 t604) := ⟨h0_⟩
               have HO609 : Aside0 (Kd.R k68 68 w184 w.heap.size (fun _ => True) v608 t607) := ⟨h1_⟩
               have HO615 : Aside0 (Kd.R (Kd.int .i64) 3 w184 w.heap.size (fun k_ => some k_ ≠ (v617 : Value).ownBlock ∧ some k_ ≠ (.slice Ao54 t568.length co54 : Value).ownBlock ∧ some k_ ≠ (.slice Ao55 t571.length co55 : Value).ownBlock ∧ some k_ ≠ (.slice Ao59 t577.length co59 : Value).ownBlock ∧ some k_ ≠ (.slice Ao60 t580.length co60 : Value).ownBlock) v614 t613) := ⟨h2_⟩
               have HO618 : Aside0 (Kd.R (Kd.int .i64) 3 w184 w.heap.size (fun k_ => some k_ ≠ (v614 : Value).ownBlock ∧ some k_ ≠ (.slice Ao54 t568.length co54 : Value).ownBlock ∧ some k_ ≠ (.slice Ao55 t571.length co55 : Value).ownBlock ∧ some k_ ≠ (.slice Ao59 t577.length co59 : Value).ownBlock ∧ some k_ ≠ (.slice Ao60 t580.length co60 : Value).ownBlock) v617 t616) := ⟨h3_⟩
               have BK619 : Aside0 (w184.heap[gb619]? = some (.cells #[.int .i64 0, .int .i64 0, .int .i64 0, .slice none 0 0, .slice none 0 0] 35 (0, 0))) := ⟨h14_⟩
               have GW619 : Aside0 (w.heap.size ≤ gb619) := ⟨h15_⟩
               have GE619 : Aside0 (w.heap.size ≤ gb619) := ⟨h16_⟩
               have NB549_619 : Aside0 (gb549 ≠ gb619) := ⟨h17_⟩
               have NB619_549 : Aside0 (gb619 ≠ gb549) := ⟨h18_⟩
               have NB550_619 : Aside0 (gb550 ≠ gb619) := ⟨h19_⟩
               have NB619_550 : Aside0 (gb619 ≠ gb550) := ⟨h20_⟩
               have NB584_619 : Aside0 (gb584 ≠ gb619) := ⟨h21_⟩
               have NB619_584 : Aside0 (gb619 ≠ gb584) := ⟨h22_⟩
               have NB585_619 : Aside0 (gb585 ≠ gb619) := ⟨h23_⟩
               have NB619_585 : Aside0 (gb619 ≠ gb585) := ⟨h24_⟩
               have NB599_619 : Aside0 (gb599 ≠ gb619) := ⟨h25_⟩
               have NB619_599 : Aside0 (gb619 ≠ gb599) := ⟨h26_⟩
               have NB600_619 : Aside0 (gb600 ≠ gb619) := ⟨h27_⟩
               have NB619_600 : Aside0 (gb619 ≠ gb600) := ⟨h28_⟩
               replace HO_585003 : Aside0 (Kd.R (Kd.int .i64) 3 w184 w.heap.size (fun k_ => some k_ ≠ (v614 : Value).ownBlock ∧ some k_ ≠ (v617 : Value).ownBlock ∧ some k_ ≠ (.slice Ao55 t571.length co55 : Value).ownBlock ∧ some k_ ≠ (.slice Ao59 t577.length co59 : Value).ownBlock ∧ some k_ ≠ (.slice Ao60 t580.length co60 : Value).ownBlock) (.slice Ao54 t568.length co54) t568) := ⟨h4_⟩
               replace HO_585004 : Aside0 (Kd.R (Kd.int .i64) 3 w184 w.heap.size (fun k_ => some k_ ≠ (v614 : Value).ownBlock ∧ some k_ ≠ (v617 : Value).ownBlock ∧ some k_ ≠ (.slice Ao54 t568.length co54 : Value).ownBlock ∧ some k_ ≠ (.slice Ao59 t577.length co59 : Value).ownBlock ∧ some k_ ≠ (.slice Ao60 t580.length co60 : Value).ownBlock) (.slice Ao55 t571.length co55) t571) := ⟨h5_⟩
               replace HO_586003 : Aside0 (Kd.R (Kd.int .i64) 3 w184 w.heap.size (fun k_ => some k_ ≠ (v614 : Value).ownBlock ∧ some k_ ≠ (v617 : Value).ownBlock ∧ some k_ ≠ (.slice Ao54 t568.length co54 : Value).ownBlock ∧ some k_ ≠ (.slice Ao55 t571.length co55 : Value).ownBlock ∧ some k_ ≠ (.slice Ao60 t580.length co60 : Value).ownBlock) (.slice Ao59 t577.length co59) t577) := ⟨h6_⟩
               replace HO_586004 : Aside0 (Kd.R (Kd.int .i64) 3 w184 w.heap.size (fun k_ => some k_ ≠ (v614 : Value).ownBlock ∧ some k_ ≠ (v617 : Value).ownBlock ∧ some k_ ≠ (.slice Ao54 t568.length co54 : Value).ownBlock ∧ some k_ ≠ (.slice Ao55 t571.length co55 : Value).ownBlock ∧ some k_ ≠ (.slice Ao59 t577.length co59 : Value).ownBlock) (.slice Ao60 t580.length co60) t580) := ⟨h7_⟩
               replace BK549 : Aside0 (w184.heap[gb549]? = some (.cells #[.slice A0_0 l0_0.length c0_0, .slice A0_1 l0_1.length c0_1] 25 (0, 0))) := ⟨h8_⟩
               replace BK550 : Aside0 (w184.heap[gb550]? = some (.cells #[.int .i64 a1_0, .int .i64 a1_1, .int .i64 a1_2, .slice A1_3 l1_3.length c1_3, .slice A1_4 l1_4.length c1_4] 30 (0, 0))) := ⟨h9_⟩
               replace BK584 : Aside0 (w184.heap[gb584]? = some (.cells #[.int .i64 t565, .int .i64 t566, .int .i64 t567, .slice Ao54 t568.length co54, .slice Ao55 t571.length co55] 30 (0, 0))) := ⟨h10_⟩
               replace BK585 : Aside0 (w184.heap[gb585]? = some (.cells #[.int .i64 t574, .int .i64 t575, .int .i64 t576, .slice Ao59 t577.length co59, .slice Ao60 t580.length co60] 30 (0, 0))) := ⟨h11_⟩
               replace BK599 : Aside0 (w184.heap[gb599]? = some (.cells #[.int .i64 t565, .int .i64 t566, .int .i64 t567, .slice Ao54 t568.length co54, .slice Ao55 t571.length co55] 35 (0, 0))) := ⟨h12_⟩
               replace BK600 : Aside0 (w184.heap[gb600]? = some (.cells #[.int .i64 t574, .int .i64 t575, .int .i64 t576, .slice Ao59 t577.length co59, .slice Ao60 t580.length co60] 35 (0, 0))) := ⟨h13_⟩
               replace HB : Aside0 (Below w.heap.size w w184) := ⟨h29_⟩
               clear h0_ h1_ h2_ h3_ h4_ h5_ h6_ h7_ h8_ h9_ h10_ h11_ h12_ h13_ h14_ h15_ h16_ h17_ h18_ h19_ h20_ h21_ h22_ h23_ h24_ h25_ h26_ h27_ h28_ h29_
               have hHeld : w184.cell? ⟨gb549, 0, none⟩ = some (.slice A0_0 l0_0.length c0_0) ∧ w184.cell? ⟨gb549, 1, none⟩ = some (.slice A0_1 l0_1.length c0_1) ∧ w184.cell? ⟨gb550, 0, none⟩ = some (.int .i64 a1_0) ∧ w184.cell? ⟨gb550, 1, none⟩ = some (.int .i64 a1_1) ∧ w184.cell? ⟨gb550, 2, none⟩ = some (.int .i64 a1_2) ∧ w184.cell? ⟨gb550, 3, none⟩ = some (.slice A1_3 l1_3.length c1_3) ∧ w184.cell? ⟨gb550, 4, none⟩ = some (.slice A1_4 l1_4.length c1_4) := hS_
               obtain ⟨Ao188, co188, eo188⟩ := Kd.R_slice HO615.out
               (first | subst eo188 | (injection eo188 with f1_ f2_ f3_; have f4_ := f1_.symm; have f5_ := f3_.symm; clear f1_ f2_ f3_; subst f4_; subst f5_))
               obtain ⟨Ao190, co190, eo190⟩ := Kd.R_slice HO618.out
               (first | subst eo190 | (injection eo190 with f1_ f2_ f3_; have f4_ := f1_.symm; have f5_ := f3_.symm; clear f1_ f2_ f3_; subst f4_; subst f5_))
               refine norm_ (a' := ?_) ?_ ?_
               rotate_left
               ·simp only [putAll, Act.put, List.setIfInBounds_toArray, List.set_cons_zero, List.set_cons_succ]
                rfl
               refine one_ (i := 12) (N := none) #[true, true, true, true, true, true, true, true, true, true, true, true, true] rfl rfl (one_of HT_.out (by kernel_rfl)) (by decide) (fun K hK => ?_)
               have hs185 : w184.cell? ⟨gb619, 0, none⟩ = some (.int .i64 0) := (blk_cell BK619.out 0).trans rfl
               have hfs185 := blk_frozen BK619.out 0
               have hns185_0 := NB549_619.out
               have hns185_1 := NB550_619.out
               have hns185_2 := NB584_619.out
               have hns185_3 := NB585_619.out
               have hns185_4 := NB599_619.out
               have hns185_5 := NB600_619.out
               have hms185_0 := NB619_549.out
               have hms185_1 := NB619_550.out
               have hms185_2 := NB619_584.out
               have hms185_3 := NB619_585.out
               have hms185_4 := NB619_599.out
               have hms185_5 := NB619_600.out
               have hs186 : w184.cell? ⟨gb619, 1, none⟩ = some (.int .i64 0) := (blk_cell BK619.out 1).trans rfl
               have hfs186 := blk_frozen BK619.out 1
               have hns186_0 := NB549_619.out
               have hns186_1 := NB550_619.out
               have hns186_2 := NB584_619.out
               have hns186_3 := NB585_619.out
               have hns186_4 := NB599_619.out
               have hns186_5 := NB600_619.out
               have hms186_0 := NB619_549.out
               have hms186_1 := NB619_550.out
               have hms186_2 := NB619_584.out
               have hms186_3 := NB619_585.out
               have hms186_4 := NB619_599.out
               have hms186_5 := NB619_600.out
               have hs187 : w184.cell? ⟨gb619, 2, none⟩ = some (.int .i64 0) := (blk_cell BK619.out 2).trans rfl
               have hfs187 := blk_frozen BK619.out 2
               have hns187_0 := NB549_619.out
               have hns187_1 := NB550_619.out
               have hns187_2 := NB584_619.out
               have hns187_3 := NB585_619.out
               have hns187_4 := NB599_619.out
               have hns187_5 := NB600_619.out
               have hms187_0 := NB619_549.out
               have hms187_1 := NB619_550.out
               have hms187_2 := NB619_584.out
               have hms187_3 := NB619_585.out
               have hms187_4 := NB619_599.out
               have hms187_5 := NB619_600.out
               have hs189 : w184.cell? ⟨gb619, 3, none⟩ = some (.slice none 0 0) := (blk_cell BK619.out 3).trans rfl
               have hfs189 := blk_frozen BK619.out 3
               have hns189_0 := NB549_619.out
               have hns189_1 := NB550_619.out
               have hns189_2 := NB584_619.out
               have hns189_3 := NB585_619.out
               have hns189_4 := NB599_619.out
               have hns189_5 := NB600_619.out
               have hms189_0 := NB619_549.out
               have hms189_1 := NB619_550.out
               have hms189_2 := NB619_584.out
               have hms189_3 := NB619_585.out
               have hms189_4 := NB619_599.out
               have hms189_5 := NB619_600.out
               have hs191 : w184.cell? ⟨gb619, 4, none⟩ = some (.slice none 0 0) := (blk_cell BK619.out 4).trans rfl
               have hfs191 := blk_frozen BK619.out 4
               have hns191_0 := NB549_619.out
               have hns191_1 := NB550_619.out
               have hns191_2 := NB584_619.out
               have hns191_3 := NB585_619.out
               have hns191_4 := NB599_619.out
               have hns191_5 := NB600_619.out
               have hms191_0 := NB619_549.out
               have hms191_1 := NB619_550.out
               have hms191_2 := NB619_584.out
               have hms191_3 := NB619_585.out
               have hms191_4 := NB619_599.out
               have hms191_5 := NB619_600.out
               refine skip_ (w1 := ?_) (by rfl) rfl ?_ ?_
               rotate_left
               ·go_simp
                rfl
               refine hK.out _ _ ⟨((cell_far (p := ⟨gb619, _, none⟩) NB549_619.out _).trans (((cell_far (p := ⟨gb619, _, none⟩) NB549_619.out _).trans (((cell_far (p := ⟨gb619, _, none⟩) NB549_619.out _).trans (((cell_far (p := ⟨gb619, _, none⟩) NB549_619.out _).trans (((cell_far (p := ⟨gb619, _, none⟩) NB549_619.out _).trans (hHeld.1)))))))))), ((cell_far (p := ⟨gb619, _, none⟩) NB549_619.out _).trans (((cell_far (p := ⟨gb619, _, none⟩) NB549_619.out _).trans (((cell_far (p := ⟨gb619, _, none⟩) NB549_619.out _).trans (((cell_far (p := ⟨gb619, _, none⟩) NB549_619.out _).trans (((cell_far (p := ⟨gb619, _, none⟩) NB549_619.out _).trans (hHeld.2.1)))))))))), ((cell_far (p := ⟨gb619, _, none⟩) NB550_619.out _).trans (((cell_far (p := ⟨gb619, _, none⟩) NB550_619.out _).trans (((cell_far (p := ⟨gb619, _, none⟩) NB550_619.out _).trans (((cell_far (p := ⟨gb619, _, none⟩) NB550_619.out _).trans (((cell_far (p := ⟨gb619, _, none⟩) NB550_619.out _).trans (hHeld.2.2.1)))))))))), ((cell_far (p := ⟨gb619, _, none⟩) NB550_619.out _).trans (((cell_far (p := ⟨gb619, _, none⟩) NB550_619.out _).trans (((cell_far (p := ⟨gb619, _, none⟩) NB550_619.out _).trans (((cell_far (p := ⟨gb619, _, none⟩) NB550_619.out _).trans (((cell_far (p := ⟨gb619, _, none⟩) NB550_619.out _).trans (hHeld.2.2.2.1)))))))))), ((cell_far (p := ⟨gb619, _, none⟩) NB550_619.out _).trans (((cell_far (p := ⟨gb619, _, none⟩) NB550_619.out _).trans (((cell_far (p := ⟨gb619, _, none⟩) NB550_619.out _).trans (((cell_far (p := ⟨gb619, _, none⟩) NB550_619.out _).trans (((cell_far (p := ⟨gb619, _, none⟩) NB550_619.out _).trans (hHeld.2.2.2.2.1)))))))))), ((cell_far (p := ⟨gb619, _, none⟩) NB550_619.out _).trans (((cell_far (p := ⟨gb619, _, none⟩) NB550_619.out _).trans (((cell_far (p := ⟨gb619, _, none⟩) NB550_619.out _).trans (((cell_far (p := ⟨gb619, _, none⟩) NB550_619.out _).trans (((cell_far (p := ⟨gb619, _, none⟩) NB550_619.out _).trans (hHeld.2.2.2.2.2.1)))))))))), ((cell_far (p := ⟨gb619, _, none⟩) NB550_619.out _).trans (((cell_far (p := ⟨gb619, _, none⟩) NB550_619.out _).trans (((cell_far (p := ⟨gb619, _, none⟩) NB550_619.out _).trans (((cell_far (p := ⟨gb619, _, none⟩) NB550_619.out _).trans (((cell_far (p := ⟨gb619, _, none⟩) NB550_619.out _).trans (hHeld.2.2.2.2.2.2))))))))))⟩ (fun hHeld => ?_)
               clear hK K
               refine done_ (done_of HT_.out (by kernel_rfl)) ?_
               try go_wp2
               have n0_ : Aside0 (Kd.R (Kd.int .i64) 3 (((((w184.setCell ⟨gb619, 0, none⟩ (.int .i64 t610)).setCell ⟨gb619, 1, none⟩ (.int .i64 t611)).setCell ⟨gb619, 2, none⟩ (.int .i64 t612)).setCell ⟨gb619, 3, none⟩ (.slice Ao188 t613.length co188)).setCell ⟨gb619, 4, none⟩ (.slice Ao190 t616.length co190)) w.heap.size (fun k_ => some k_ ≠ (.slice Ao55 t571.length co55 : Value).ownBlock ∧ some k_ ≠ (.slice Ao59 t577.length co59 : Value).ownBlock ∧ some k_ ≠ (.slice Ao60 t580.length co60 : Value).ownBlock ∧ some k_ ≠ (.slice Ao188 t613.length co188 : Value).ownBlock ∧ some k_ ≠ (.slice Ao190 t616.length co190 : Value).ownBlock) (.slice Ao54 t568.length co54) t568) := ⟨rs_ (ty_ HO_585003.out BK619.out)⟩
               have n1_ : Aside0 (Kd.R (Kd.int .i64) 3 (((((w184.setCell ⟨gb619, 0, none⟩ (.int .i64 t610)).setCell ⟨gb619, 1, none⟩ (.int .i64 t611)).setCell ⟨gb619, 2, none⟩ (.int .i64 t612)).setCell ⟨gb619, 3, none⟩ (.slice Ao188 t613.length co188)).setCell ⟨gb619, 4, none⟩ (.slice Ao190 t616.length co190)) w.heap.size (fun k_ => some k_ ≠ (.slice Ao54 t568.length co54 : Value).ownBlock ∧ some k_ ≠ (.slice Ao59 t577.length co59 : Value).ownBlock ∧ some k_ ≠ (.slice Ao60 t580.length co60 : Value).ownBlock ∧ some k_ ≠ (.slice Ao188 t613.length co188 : Value).ownBlock ∧ some k_ ≠ (.slice Ao190 t616.length co190 : Value).ownBlock) (.slice Ao55 t571.length co55) t571) := ⟨rs_ (ty_ HO_585004.out BK619.out)⟩
               have n2_ : Aside0 (Kd.R (Kd.int .i64) 3 (((((w184.setCell ⟨gb619, 0, none⟩ (.int .i64 t610)).setCell ⟨gb619, 1, none⟩ (.int .i64 t611)).setCell ⟨gb619, 2, none⟩ (.int .i64 t612)).setCell ⟨gb619, 3, none⟩ (.slice Ao188 t613.length co188)).setCell ⟨gb619, 4, none⟩ (.slice Ao190 t616.length co190)) w.heap.size (fun k_ => some k_ ≠ (.slice Ao54 t568.length co54 : Value).ownBlock ∧ some k_ ≠ (.slice Ao55 t571.length co55 : Value).ownBlock ∧ some k_ ≠ (.slice Ao60 t580.length co60 : Value).ownBlock ∧ some k_ ≠ (.slice Ao188 t613.length co188 : Value).ownBlock ∧ some k_ ≠ (.slice Ao190 t616.length co190 : Value).ownBlock) (.slice Ao59 t577.length co59) t577) := ⟨rs_ (ty_ HO_586003.out BK619.out)⟩
               have n3_ : Aside0 (Kd.R (Kd.int .i64) 3 (((((w184.setCell ⟨gb619, 0, none⟩ (.int .i64 t610)).setCell ⟨gb619, 1, none⟩ (.int .i64 t611)).setCell ⟨gb619, 2, none⟩ (.int .i64 t612)).setCell ⟨gb619, 3, none⟩ (.slice Ao188 t613.length co188)).setCell ⟨gb619, 4, none⟩ (.slice Ao190 t616.length co190)) w.heap.size (fun k_ => some k_ ≠ (.slice Ao54 t568.length co54 : Value).ownBlock ∧ some k_ ≠ (.slice Ao55 t571.length co55 : Value).ownBlock ∧ some k_ ≠ (.slice Ao59 t577.length co59 : Value).ownBlock ∧ some k_ ≠ (.slice Ao188 t613.length co188 : Value).ownBlock ∧ some k_ ≠ (.slice Ao190 t616.length co190 : Value).ownBlock) (.slice Ao60 t580.length co60) t580) := ⟨rs_ (ty_ HO_586004.out BK619.out)⟩
               have n4_ : Aside0 (Kd.V k58 58 (((((w184.setCell ⟨gb619, 0, none⟩ (.int .i64 t610)).setCell ⟨gb619, 1, none⟩ (.int .i64 t611)).setCell ⟨gb619, 2, none⟩ (.int .i64 t612)).setCell ⟨gb619, 3, none⟩ (.slice Ao188 t613.length co188)).setCell ⟨gb619, 4, none⟩ (.slice Ao190 t616.length co190)) w.heap.size (fun k_ => some k_ ≠ (.slice Ao54 t568.length co54 : Value).ownBlock ∧ some k_ ≠ (.slice Ao55 t571.length co55 : Value).ownBlock ∧ some k_ ≠ (.slice Ao59 t577.length co59 : Value).ownBlock ∧ some k_ ≠ (.slice Ao60 t580.length co60 : Value).ownBlock ∧ some k_ ≠ (v608 : Value).ownBlock ∧ some k_ ≠ (.slice Ao188 t613.length co188 : Value).ownBlock ∧ some k_ ≠ (.slice Ao190 t616.length co190 : Value).ownBlock ∧ k_ ≠ gb549 ∧ k_ ≠ gb550 ∧ k_ ≠ gb584 ∧ k_ ≠ gb585 ∧ k_ ≠ gb599 ∧ k_ ≠ gb600 ∧ k_ ≠ gb619) v605 t604) := ⟨by refine kv_ ?_; exact Kd.V_mono (Kd.V_far (p := ⟨gb619, 4, none⟩) (Kd.V_far (p := ⟨gb619, 3, none⟩) (Kd.V_far (p := ⟨gb619, 2, none⟩) (Kd.V_far (p := ⟨gb619, 1, none⟩) (Kd.V_far (p := ⟨gb619, 0, none⟩) (Kd.V_mono HO606.out (fun k_ hk => (⟨hk, hk.2.2.2.2.2.2.2.2.2.2.2.2.2⟩ : _ ∧ k_ ≠ gb619))) (fun _ hk => hk.2) (.int .i64 t610)) (fun _ hk => hk.2) (.int .i64 t611)) (fun _ hk => hk.2) (.int .i64 t612)) (fun _ hk => hk.2) (.slice Ao188 t613.length co188)) (fun _ hk => hk.2) (.slice Ao190 t616.length co190)) (fun _ hk => ⟨hk.1.2.2.2.1, ⟨hk.1.2.2.2.2.1, ⟨hk.1.2.2.2.2.2.1, ⟨hk.1.2.2.2.2.2.2.1, ⟨hk.1.1, ⟨hk.1.2.1, ⟨hk.1.2.2.1, ⟨hk.1.2.2.2.2.2.2.2.1, ⟨hk.1.2.2.2.2.2.2.2.2.1, ⟨hk.1.2.2.2.2.2.2.2.2.2.1, ⟨hk.1.2.2.2.2.2.2.2.2.2.2.1, ⟨hk.1.2.2.2.2.2.2.2.2.2.2.2.1, ⟨hk.1.2.2.2.2.2.2.2.2.2.2.2.2.1, hk.1.2.2.2.2.2.2.2.2.2.2.2.2.2⟩⟩⟩⟩⟩⟩⟩⟩⟩⟩⟩⟩⟩)⟩
               have n5_ : Aside0 (Kd.R k68 68 (((((w184.setCell ⟨gb619, 0, none⟩ (.int .i64 t610)).setCell ⟨gb619, 1, none⟩ (.int .i64 t611)).setCell ⟨gb619, 2, none⟩ (.int .i64 t612)).setCell ⟨gb619, 3, none⟩ (.slice Ao188 t613.length co188)).setCell ⟨gb619, 4, none⟩ (.slice Ao190 t616.length co190)) w.heap.size (fun _ => True) v608 t607) := ⟨rs_ (ty_ HO609.out BK619.out)⟩
               have n6_ : Aside0 (Kd.R (Kd.int .i64) 3 (((((w184.setCell ⟨gb619, 0, none⟩ (.int .i64 t610)).setCell ⟨gb619, 1, none⟩ (.int .i64 t611)).setCell ⟨gb619, 2, none⟩ (.int .i64 t612)).setCell ⟨gb619, 3, none⟩ (.slice Ao188 t613.length co188)).setCell ⟨gb619, 4, none⟩ (.slice Ao190 t616.length co190)) w.heap.size (fun k_ => some k_ ≠ (.slice Ao54 t568.length co54 : Value).ownBlock ∧ some k_ ≠ (.slice Ao55 t571.length co55 : Value).ownBlock ∧ some k_ ≠ (.slice Ao59 t577.length co59 : Value).ownBlock ∧ some k_ ≠ (.slice Ao60 t580.length co60 : Value).ownBlock ∧ some k_ ≠ (.slice Ao190 t616.length co190 : Value).ownBlock) (.slice Ao188 t613.length co188) t613) := ⟨rs_ (ty_ HO615.out BK619.out)⟩
               have n7_ : Aside0 (Kd.R (Kd.int .i64) 3 (((((w184.setCell ⟨gb619, 0, none⟩ (.int .i64 t610)).setCell ⟨gb619, 1, none⟩ (.int .i64 t611)).setCell ⟨gb619, 2, none⟩ (.int .i64 t612)).setCell ⟨gb619, 3, none⟩ (.slice Ao188 t613.length co188)).setCell ⟨gb619, 4, none⟩ (.slice Ao190 t616.length co190)) w.heap.size (fun k_ => some k_ ≠ (.slice Ao54 t568.length co54 : Value).ownBlock ∧ some k_ ≠ (.slice Ao55 t571.length co55 : Value).ownBlock ∧ some k_ ≠ (.slice Ao59 t577.length co59 : Value).ownBlock ∧ some k_ ≠ (.slice Ao60 t580.length co60 : Value).ownBlock ∧ some k_ ≠ (.slice Ao188 t613.length co188 : Value).ownBlock) (.slice Ao190 t616.length co190) t616) := ⟨rs_ (ty_ HO618.out BK619.out)⟩
               have n8_ : Aside0 ((((((w184.setCell ⟨gb619, 0, none⟩ (.int .i64 t610)).setCell ⟨gb619, 1, none⟩ (.int .i64 t611)).setCell ⟨gb619, 2, none⟩ (.int .i64 t612)).setCell ⟨gb619, 3, none⟩ (.slice Ao188 t613.length co188)).setCell ⟨gb619, 4, none⟩ (.slice Ao190 t616.length co190)).heap[gb549]? = some (.cells #[.slice A0_0 l0_0.length c0_0, .slice A0_1 l0_1.length c0_1] 25 (0, 0))) := ⟨bf_ BK549.out⟩
               have n9_ : Aside0 ((((((w184.setCell ⟨gb619, 0, none⟩ (.int .i64 t610)).setCell ⟨gb619, 1, none⟩ (.int .i64 t611)).setCell ⟨gb619, 2, none⟩ (.int .i64 t612)).setCell ⟨gb619, 3, none⟩ (.slice Ao188 t613.length co188)).setCell ⟨gb619, 4, none⟩ (.slice Ao190 t616.length co190)).heap[gb550]? = some (.cells #[.int .i64 a1_0, .int .i64 a1_1, .int .i64 a1_2, .slice A1_3 l1_3.length c1_3, .slice A1_4 l1_4.length c1_4] 30 (0, 0))) := ⟨bf_ BK550.out⟩
               have n10_ : Aside0 ((((((w184.setCell ⟨gb619, 0, none⟩ (.int .i64 t610)).setCell ⟨gb619, 1, none⟩ (.int .i64 t611)).setCell ⟨gb619, 2, none⟩ (.int .i64 t612)).setCell ⟨gb619, 3, none⟩ (.slice Ao188 t613.length co188)).setCell ⟨gb619, 4, none⟩ (.slice Ao190 t616.length co190)).heap[gb584]? = some (.cells #[.int .i64 t565, .int .i64 t566, .int .i64 t567, .slice Ao54 t568.length co54, .slice Ao55 t571.length co55] 30 (0, 0))) := ⟨bf_ BK584.out⟩
               have n11_ : Aside0 ((((((w184.setCell ⟨gb619, 0, none⟩ (.int .i64 t610)).setCell ⟨gb619, 1, none⟩ (.int .i64 t611)).setCell ⟨gb619, 2, none⟩ (.int .i64 t612)).setCell ⟨gb619, 3, none⟩ (.slice Ao188 t613.length co188)).setCell ⟨gb619, 4, none⟩ (.slice Ao190 t616.length co190)).heap[gb585]? = some (.cells #[.int .i64 t574, .int .i64 t575, .int .i64 t576, .slice Ao59 t577.length co59, .slice Ao60 t580.length co60] 30 (0, 0))) := ⟨bf_ BK585.out⟩
               have n12_ : Aside0 ((((((w184.setCell ⟨gb619, 0, none⟩ (.int .i64 t610)).setCell ⟨gb619, 1, none⟩ (.int .i64 t611)).setCell ⟨gb619, 2, none⟩ (.int .i64 t612)).setCell ⟨gb619, 3, none⟩ (.slice Ao188 t613.length co188)).setCell ⟨gb619, 4, none⟩ (.slice Ao190 t616.length co190)).heap[gb599]? = some (.cells #[.int .i64 t565, .int .i64 t566, .int .i64 t567, .slice Ao54 t568.length co54, .slice Ao55 t571.length co55] 35 (0, 0))) := ⟨bf_ BK599.out⟩
               have n13_ : Aside0 ((((((w184.setCell ⟨gb619, 0, none⟩ (.int .i64 t610)).setCell ⟨gb619, 1, none⟩ (.int .i64 t611)).setCell ⟨gb619, 2, none⟩ (.int .i64 t612)).setCell ⟨gb619, 3, none⟩ (.slice Ao188 t613.length co188)).setCell ⟨gb619, 4, none⟩ (.slice Ao190 t616.length co190)).heap[gb600]? = some (.cells #[.int .i64 t574, .int .i64 t575, .int .i64 t576, .slice Ao59 t577.length co59, .slice Ao60 t580.length co60] 35 (0, 0))) := ⟨bf_ BK600.out⟩
               have n14_ : Aside0 ((((((w184.setCell ⟨gb619, 0, none⟩ (.int .i64 t610)).setCell ⟨gb619, 1, none⟩ (.int .i64 t611)).setCell ⟨gb619, 2, none⟩ (.int .i64 t612)).setCell ⟨gb619, 3, none⟩ (.slice Ao188 t613.length co188)).setCell ⟨gb619, 4, none⟩ (.slice Ao190 t616.length co190)).heap[gb619]? = some (.cells #[.int .i64 t610, .int .i64 t611, .int .i64 t612, .slice Ao188 t613.length co188, .slice Ao190 t616.length co190] 35 (0, 0))) := ⟨bp_ BK619.out⟩
               have n15_ : Aside0 (Below w.heap.size w (((((w184.setCell ⟨gb619, 0, none⟩ (.int .i64 t610)).setCell ⟨gb619, 1, none⟩ (.int .i64 t611)).setCell ⟨gb619, 2, none⟩ (.int .i64 t612)).setCell ⟨gb619, 3, none⟩ (.slice Ao188 t613.length co188)).setCell ⟨gb619, 4, none⟩ (.slice Ao190 t616.length co190))) := ⟨bl_⟩
               (try clear HO_585003)
               (try clear HO_585004)
               (try clear HO_586003)
               (try clear HO_586004)
               (try clear HO606)
               (try clear HO609)
               (try clear HO615)
               (try clear HO618)
               (try clear BK549)
               (try clear BK550)
               (try clear BK584)
               (try clear BK585)
               (try clear BK599)
               (try clear BK600)
               (try clear BK619)
               (try clear HB)
               generalize (((((w184.setCell ⟨gb619, 0, none⟩ (.int .i64 t610)).setCell ⟨gb619, 1, none⟩ (.int .i64 t611)).setCell ⟨gb619, 2, none⟩ (.int .i64 t612)).setCell ⟨gb619, 3, none⟩ (.slice Ao188 t613.length co188)).setCell ⟨gb619, 4, none⟩ (.slice Ao190 t616.length co190)) = w192 at n0_ n1_ n2_ n3_ n4_ n5_ n6_ n7_ n8_ n9_ n10_ n11_ n12_ n13_ n14_ n15_ ⊢
               have HO_585003 := n0_
               have HO_585004 := n1_
               have HO_586003 := n2_
               have HO_586004 := n3_
               have HO606 := n4_
               have HO609 := n5_
               have HO615 := n6_
               have HO618 := n7_
               have BK549 := n8_
               have BK550 := n9_
               have BK584 := n10_
               have BK585 := n11_
               have BK599 := n12_
               have BK600 := n13_
               have BK619 := n14_
               have HB := n15_
               clear n0_ n1_ n2_ n3_ n4_ n5_ n6_ n7_ n8_ n9_ n10_ n11_ n12_ n13_ n14_ n15_
               replace HO_585003 := Aside0.mk (Kd.R_drew HO_585003.out)
               replace HO_585004 := Aside0.mk (Kd.R_drew HO_585004.out)
               replace HO_586003 := Aside0.mk (Kd.R_drew HO_586003.out)
               replace HO_586004 := Aside0.mk (Kd.R_drew HO_586004.out)
               replace HO606 := Aside0.mk (Kd.V_drew HO606.out)
               replace HO609 := Aside0.mk (Kd.R_drew HO609.out)
               replace HO615 := Aside0.mk (Kd.R_drew HO615.out)
               replace HO618 := Aside0.mk (Kd.R_drew HO618.out)
               replace BK549 := Aside0.mk (blk_drew BK549.out)
               replace BK550 := Aside0.mk (blk_drew BK550.out)
               replace BK584 := Aside0.mk (blk_drew BK584.out)
               replace BK585 := Aside0.mk (blk_drew BK585.out)
               replace BK599 := Aside0.mk (blk_drew BK599.out)
               replace BK600 := Aside0.mk (blk_drew BK600.out)
               replace BK619 := Aside0.mk (blk_drew BK619.out)
               replace HB := Aside0.mk (below_drew1 HB.out)
               refine start_ (n := 19) (S := fun w' => w'.cell? ⟨gb599, 0, none⟩ = some (.int .i64 t565) ∧ w'.cell? ⟨gb599, 1, none⟩ = some (.int .i64 t566) ∧ w'.cell? ⟨gb599, 2, none⟩ = some (.int .i64 t567) ∧ w'.cell? ⟨gb599, 3, none⟩ = some (.slice Ao54 t568.length co54) ∧ w'.cell? ⟨gb599, 4, none⟩ = some (.slice Ao55 t571.length co55) ∧ w'.cell? ⟨gb619, 0, none⟩ = some (.int .i64 t610) ∧ w'.cell? ⟨gb619, 1, none⟩ = some (.int .i64 t611) ∧ w'.cell? ⟨gb619, 2, none⟩ = some (.int .i64 t612) ∧ w'.cell? ⟨gb619, 3, none⟩ = some (.slice Ao188 t613.length co188) ∧ w'.cell? ⟨gb619, 4, none⟩ = some (.slice Ao190 t616.length co190) ∧ w'.cell? ⟨gb600, 0, none⟩ = some (.int .i64 t574) ∧ w'.cell? ⟨gb600, 1, none⟩ = some (.int .i64 t575) ∧ w'.cell? ⟨gb600, 2, none⟩ = some (.int .i64 t576) ∧ w'.cell? ⟨gb600, 3, none⟩ = some (.slice Ao59 t577.length co59) ∧ w'.cell? ⟨gb600, 4, none⟩ = some (.slice Ao60 t580.length co60) ∧ w'.cell? ⟨gb550, 0, none⟩ = some (.int .i64 a1_0) ∧ w'.cell? ⟨gb550, 1, none⟩ = some (.int .i64 a1_1) ∧ w'.cell? ⟨gb550, 2, none⟩ = some (.int .i64 a1_2) ∧ w'.cell? ⟨gb550, 3, none⟩ = some (.slice A1_3 l1_3.length c1_3) ∧ w'.cell? ⟨gb550, 4, none⟩ = some (.slice A1_4 l1_4.length c1_4)) (ds := []) #[false, false, false, false, false, false, false, false, false, false, false, false, false, false, false, false, false, false, false] (by kernel_rfl) rfl rfl ⟨(blk_cell BK599.out 0).trans rfl, (blk_cell BK599.out 1).trans rfl, (blk_cell BK599.out 2).trans rfl, (blk_cell BK599.out 3).trans rfl, (blk_cell BK599.out 4).trans rfl, (blk_cell BK619.out 0).trans rfl, (blk_cell BK619.out 1).trans rfl, (blk_cell BK619.out 2).trans rfl, (blk_cell BK619.out 3).trans rfl, (blk_cell BK619.out 4).trans rfl, (blk_cell BK600.out 0).trans rfl, (blk_cell BK600.out 1).trans rfl, (blk_cell BK600.out 2).trans rfl, (blk_cell BK600.out 3).trans rfl, (blk_cell BK600.out 4).trans rfl, (blk_cell BK550.out 0).trans rfl, (blk_cell BK550.out 1).trans rfl, (blk_cell BK550.out 2).trans rfl, (blk_cell BK550.out 3).trans rfl, (blk_cell BK550.out 4).trans rfl⟩ (fun hHeld => ?_); refine with_tabW paymasterlaw14_WithholdStep.tab21 paymasterlaw14_WithholdStep.bits21 (fun HT_ HW_ => ?_)
               generalize w192.drew = w193 at HO_585003 HO_585004 HO_586003 HO_586004 HO606 HO609 HO615 HO618 BK549 BK550 BK584 BK585 BK599 BK600 BK619 HB hHeld ⊢
               refine take_ (i := 0) (N := some 161) (v := ?_) (a' := ?_) #[true, false, false, false, false, false, false, false, false, false, false, false, false, false, false, false, false, false, false] rfl rfl (take_ofW HT_.out HW_.out (by kernel_rfl)) (fun _ _ _ h => h) (Or.inl ⟨by rfl, ?_⟩) hHeld ?_ ?_
               rotate_left
               ·rintro w' ⟨s0, s1, s2, s3, s4, s5, s6, s7, s8, s9, s10, s11, s12, s13, s14, s15, s16, s17, s18, s19⟩
                go_simp
                with_reducible rfl
               rotate_left
               ·simp only [Act.put, List.setIfInBounds_toArray, List.set_cons_zero, List.set_cons_succ, i64_w, i32_w]
                rfl
               refine take_ (i := 1) (N := some 162) (v := ?_) (a' := ?_) #[true, true, false, false, false, false, false, false, false, false, false, false, false, false, false, false, false, false, false] rfl rfl (take_ofW HT_.out HW_.out (by kernel_rfl)) (fun _ _ _ h => h) (Or.inl ⟨by rfl, ?_⟩) hHeld ?_ ?_
               rotate_left
               ·rintro w' ⟨s0, s1, s2, s3, s4, s5, s6, s7, s8, s9, s10, s11, s12, s13, s14, s15, s16, s17, s18, s19⟩
                go_simp
                with_reducible rfl
               rotate_left
               ·simp only [Act.put, List.setIfInBounds_toArray, List.set_cons_zero, List.set_cons_succ, i64_w, i32_w]
                rfl
               refine one_ (i := 2) (N := some 163) #[true, true, true, false, false, false, false, false, false, false, false, false, false, false, false, false, false, false, false] rfl rfl (one_of HT_.out (by kernel_rfl)) (by decide) (fun K hK => ?_)
               refine goes_ Try.func13 (by kernel_rfl) rfl #[.agg #[.int .i64 t565, .int .i64 t566, .int .i64 t567, .slice Ao54 t568.length co54, .slice Ao55 t571.length co55], .agg #[.int .i64 t610, .int .i64 t611, .int .i64 t612, .slice Ao188 t613.length co188, .slice Ao190 t616.length co190]] (by rfl) rfl rfl ga_ ?_
               with_reducible refine (paymasterref14_Same.calls kj42 t565 t566 t567 _ _ t568 _ _ t571 t610 t611 t612 _ _ t613 _ _ t616 true _ ?side1 ?side2 ?side3 ?side4 ?side5 ?side6 ?side7 ?side8 A156.out).mono ?_
               (case side1 => exact kc_ (Kd.R_reads' HO_585003.out).2.2)
               (case side2 => exact (Kd.R_reads' HO_585003.out).2.1)
               (case side3 => exact kc_ (Kd.R_reads' HO_585004.out).2.2)
               (case side4 => exact (Kd.R_reads' HO_585004.out).2.1)
               (case side5 => exact kc_ (Kd.R_reads' HO615.out).2.2)
               (case side6 => exact (Kd.R_reads' HO615.out).2.1)
               (case side7 => exact kc_ (Kd.R_reads' HO618.out).2.2)
               (case side8 => exact (Kd.R_reads' HO618.out).2.1)
               rintro e w194 ⟨rfl, hb⟩
               refine ⟨_, rfl, ?_⟩
               replace HO_585003 := rl_ HO_585003.out hb
               replace HO_585004 := rl_ HO_585004.out hb
               replace HO_586003 := rl_ HO_586003.out hb
               replace HO_586004 := rl_ HO_586004.out hb
               replace HO606 := Aside0.mk (Kd.V_below (by refine kv_ ?_; exact HO606.out) hb)
               replace HO609 := rl_ HO609.out hb
               replace HO615 := rl_ HO615.out hb
               replace HO618 := rl_ HO618.out hb
               replace BK549 := bb_ BK549.out hb
               replace BK550 := bb_ BK550.out hb
               replace BK584 := bb_ BK584.out hb
               replace BK585 := bb_ BK585.out hb
               replace BK599 := bb_ BK599.out hb
               replace BK600 := bb_ BK600.out hb
               replace BK619 := bb_ BK619.out hb
               replace HB := hs_ hb
               (try clear hb)
               (try clear hb2)
               (try clear hk)
               (try clear hi)
               refine hK.out _ _ ⟨(blk_cell BK599.out 0).trans rfl, (blk_cell BK599.out 1).trans rfl, (blk_cell BK599.out 2).trans rfl, (blk_cell BK599.out 3).trans rfl, (blk_cell BK599.out 4).trans rfl, (blk_cell BK619.out 0).trans rfl, (blk_cell BK619.out 1).trans rfl, (blk_cell BK619.out 2).trans rfl, (blk_cell BK619.out 3).trans rfl, (blk_cell BK619.out 4).trans rfl, (blk_cell BK600.out 0).trans rfl, (blk_cell BK600.out 1).trans rfl, (blk_cell BK600.out 2).trans rfl, (blk_cell BK600.out 3).trans rfl, (blk_cell BK600.out 4).trans rfl, (blk_cell BK550.out 0).trans rfl, (blk_cell BK550.out 1).trans rfl, (blk_cell BK550.out 2).trans rfl, (blk_cell BK550.out 3).trans rfl, (blk_cell BK550.out 4).trans rfl⟩ (fun hHeld => ?_)
               clear hK K
               refine norm_ (a' := ?_) ?_ ?_
               rotate_left
               ·show Act.put _ (some 163) _ = _
                simp only [Act.put, List.setIfInBounds_toArray, List.set_cons_zero, List.set_cons_succ, i64_w, i32_w]
                rfl
               refine pure_ (i := 3) (N := some 164) (v := ?_) (a' := ?_) #[true, true, true, true, false, false, false, false, false, false, false, false, false, false, false, false, false, false, false] rfl rfl (any_of HT_.out (by kernel_rfl)) (fun _ _ _ h => h) (Or.inl ⟨by rfl, ?_⟩) ?_ ?_
               rotate_left
               ·intro w'
                go_simp
                with_reducible rfl
               rotate_left
               ·simp only [Act.put, List.setIfInBounds_toArray, List.set_cons_zero, List.set_cons_succ, i64_w, i32_w]
                rfl
               refine take_ (i := 4) (N := some 165) (v := ?_) (a' := ?_) #[true, true, true, true, true, false, false, false, false, false, false, false, false, false, false, false, false, false, false] rfl rfl (take_ofW HT_.out HW_.out (by kernel_rfl)) (fun _ _ _ h => h) (Or.inl ⟨by rfl, ?_⟩) hHeld ?_ ?_
               rotate_left
               ·rintro w' ⟨s0, s1, s2, s3, s4, s5, s6, s7, s8, s9, s10, s11, s12, s13, s14, s15, s16, s17, s18, s19⟩
                go_simp
                with_reducible rfl
               rotate_left
               ·simp only [Act.put, List.setIfInBounds_toArray, List.set_cons_zero, List.set_cons_succ, i64_w, i32_w]
                rfl
               refine take_ (i := 5) (N := some 166) (v := ?_) (a' := ?_) #[true, true, true, true, true, true, false, false, false, false, false, false, false, false, false, false, false, false, false] rfl rfl (take_ofW HT_.out HW_.out (by kernel_rfl)) (fun _ _ _ h => h) (Or.inl ⟨by rfl, ?_⟩) hHeld ?_ ?_
               rotate_left
               ·rintro w' ⟨s0, s1, s2, s3, s4, s5, s6, s7, s8, s9, s10, s11, s12, s13, s14, s15, s16, s17, s18, s19⟩
                go_simp
                with_reducible rfl
               rotate_left
               ·simp only [Act.put, List.setIfInBounds_toArray, List.set_cons_zero, List.set_cons_succ, i64_w, i32_w]
                rfl
               refine take_ (i := 6) (N := some 167) (v := ?_) (a' := ?_) #[true, true, true, true, true, true, true, false, false, false, false, false, false, false, false, false, false, false, false] rfl rfl (take_ofW HT_.out HW_.out (by kernel_rfl)) (fun _ _ _ h => h) (Or.inl ⟨by rfl, ?_⟩) hHeld ?_ ?_
               rotate_left
               ·rintro w' ⟨s0, s1, s2, s3, s4, s5, s6, s7, s8, s9, s10, s11, s12, s13, s14, s15, s16, s17, s18, s19⟩
                go_simp
                with_reducible rfl
               rotate_left
               ·simp only [Act.put, List.setIfInBounds_toArray, List.set_cons_zero, List.set_cons_succ, i64_w, i32_w]
                rfl
               refine one_ (i := 7) (N := some 168) #[true, true, true, true, true, true, true, true, false, false, false, false, false, false, false, false, false, false, false] rfl rfl (one_of HT_.out (by kernel_rfl)) (by decide) (fun K hK => ?_)
               refine goes_ Try.func19 (by kernel_rfl) rfl #[.agg #[.int .i64 t610, .int .i64 t611, .int .i64 t612, .slice Ao188 t613.length co188, .slice Ao190 t616.length co190], .agg #[.int .i64 a1_0, .int .i64 a1_1, .int .i64 a1_2, .slice A1_3 l1_3.length c1_3, .slice A1_4 l1_4.length c1_4]] (by rfl) rfl rfl ga_ ?_
               with_reducible refine (paymasterref14_Less.calls kj42 t610 t611 t612 _ _ t613 _ _ t616 a1_0 a1_1 a1_2 _ _ l1_3 _ _ l1_4 t621 t622 t623 t624 t627 _ ?side1 ?side2 ?side3 ?side4 ?side5 ?side6 ?side7 ?side8 A158.out).mono ?_
               (case side1 => exact kc_ (Kd.R_reads' HO615.out).2.2)
               (case side2 => exact (Kd.R_reads' HO615.out).2.1)
               (case side3 => exact kc_ (Kd.R_reads' HO618.out).2.2)
               (case side4 => exact (Kd.R_reads' HO618.out).2.1)
               (case side5 => exact kc_ (Kd.C_below HR1_3.out HB.out))
               (case side6 => exact HC1_3.out)
               (case side7 => exact kc_ (Kd.C_below HR1_4.out HB.out))
               (case side8 => exact HC1_4.out)
               rintro e w195 ⟨v625, v628, rfl, ho0, ho1, hb⟩
               refine ⟨_, rfl, ?_⟩
               have HO626 := rl0_ (rn_ (rn_ (rn_ (rn_ (rn_ (rn_ ho0 HO_585003.out) HO_585004.out) HO_586003.out) HO_586004.out) HO615.out) HO618.out)
               have HO629 := rl0_ (rn_ (rn_ (rn_ (rn_ (rn_ (rn_ ho1 HO_585003.out) HO_585004.out) HO_586003.out) HO_586004.out) HO615.out) HO618.out)
               replace HO_585003 := ro2_ HO_585003.out hb ho0 ho1
               replace HO_585004 := ro2_ HO_585004.out hb ho0 ho1
               replace HO_586003 := ro2_ HO_586003.out hb ho0 ho1
               replace HO_586004 := ro2_ HO_586004.out hb ho0 ho1
               replace HO606 := Aside0.mk (Kd.V_mono (Kd.V_told (Kd.V_told (Kd.V_old (by refine kv_ ?_; exact HO606.out) hb) (Kd.R_base ho0)) (Kd.R_base ho1)) (fun _ h_ => h_.1))
               replace HO609 := rl_ HO609.out hb
               replace HO615 := ro2_ HO615.out hb ho0 ho1
               replace HO618 := ro2_ HO618.out hb ho0 ho1
               replace BK549 := bb_ BK549.out hb
               replace BK550 := bb_ BK550.out hb
               replace BK584 := bb_ BK584.out hb
               replace BK585 := bb_ BK585.out hb
               replace BK599 := bb_ BK599.out hb
               replace BK600 := bb_ BK600.out hb
               replace BK619 := bb_ BK619.out hb
               replace HB := hs_ hb
               (try clear hb)
               (try clear hb2)
               (try clear hk)
               (try clear hi)
               (try clear ho0)
               (try clear ho1)
               obtain ⟨Ao196, co196, eo196⟩ := Kd.R_slice HO626.out
               (first | subst eo196 | (injection eo196 with f1_ f2_ f3_; have f4_ := f1_.symm; have f5_ := f3_.symm; clear f1_ f2_ f3_; subst f4_; subst f5_))
               obtain ⟨Ao197, co197, eo197⟩ := Kd.R_slice HO629.out
               (first | subst eo197 | (injection eo197 with f1_ f2_ f3_; have f4_ := f1_.symm; have f5_ := f3_.symm; clear f1_ f2_ f3_; subst f4_; subst f5_))
               refine hK.out _ _ ⟨(blk_cell BK599.out 0).trans rfl, (blk_cell BK599.out 1).trans rfl, (blk_cell BK599.out 2).trans rfl, (blk_cell BK599.out 3).trans rfl, (blk_cell BK599.out 4).trans rfl, (blk_cell BK619.out 0).trans rfl, (blk_cell BK619.out 1).trans rfl, (blk_cell BK619.out 2).trans rfl, (blk_cell BK619.out 3).trans rfl, (blk_cell BK619.out 4).trans rfl, (blk_cell BK600.out 0).trans rfl, (blk_cell BK600.out 1).trans rfl, (blk_cell BK600.out 2).trans rfl, (blk_cell BK600.out 3).trans rfl, (blk_cell BK600.out 4).trans rfl, (blk_cell BK550.out 0).trans rfl, (blk_cell BK550.out 1).trans rfl, (blk_cell BK550.out 2).trans rfl, (blk_cell BK550.out 3).trans rfl, (blk_cell BK550.out 4).trans rfl⟩ (fun hHeld => ?_)
               clear hK K
               refine norm_ (a' := ?_) ?_ ?_
               rotate_left
               ·show Act.put _ (some 168) _ = _
                simp only [Act.put, List.setIfInBounds_toArray, List.set_cons_zero, List.set_cons_succ, i64_w, i32_w]
                rfl
               refine one_ (i := 8) (N := some 169) #[true, true, true, true, true, true, true, true, true, false, false, false, false, false, false, false, false, false, false] rfl rfl (one_of HT_.out (by kernel_rfl)) (by decide) (fun K hK => ?_)
               refine goes_ Try.func13 (by kernel_rfl) rfl #[.agg #[.int .i64 t574, .int .i64 t575, .int .i64 t576, .slice Ao59 t577.length co59, .slice Ao60 t580.length co60], .agg #[.int .i64 t621, .int .i64 t622, .int .i64 t623, .slice Ao196 t624.length co196, .slice Ao197 t627.length co197]] (by rfl) rfl rfl ga_ ?_
               with_reducible refine (paymasterref14_Same.calls kj42 t574 t575 t576 _ _ t577 _ _ t580 t621 t622 t623 _ _ t624 _ _ t627 true _ ?side1 ?side2 ?side3 ?side4 ?side5 ?side6 ?side7 ?side8 A159.out).mono ?_
               (case side1 => exact kc_ (Kd.R_reads' HO_586003.out).2.2)
               (case side2 => exact (Kd.R_reads' HO_586003.out).2.1)
               (case side3 => exact kc_ (Kd.R_reads' HO_586004.out).2.2)
               (case side4 => exact (Kd.R_reads' HO_586004.out).2.1)
               (case side5 => exact kc_ (Kd.R_reads' HO626.out).2.2)
               (case side6 => exact (Kd.R_reads' HO626.out).2.1)
               (case side7 => exact kc_ (Kd.R_reads' HO629.out).2.2)
               (case side8 => exact (Kd.R_reads' HO629.out).2.1)
               rintro e w198 ⟨rfl, hb⟩
               refine ⟨_, rfl, ?_⟩
               replace HO_585003 := rl_ HO_585003.out hb
               replace HO_585004 := rl_ HO_585004.out hb
               replace HO_586003 := rl_ HO_586003.out hb
               replace HO_586004 := rl_ HO_586004.out hb
               replace HO606 := Aside0.mk (Kd.V_below (by refine kv_ ?_; exact HO606.out) hb)
               replace HO609 := rl_ HO609.out hb
               replace HO615 := rl_ HO615.out hb
               replace HO618 := rl_ HO618.out hb
               replace HO626 := rl_ HO626.out hb
               replace HO629 := rl_ HO629.out hb
               replace BK549 := bb_ BK549.out hb
               replace BK550 := bb_ BK550.out hb
               replace BK584 := bb_ BK584.out hb
               replace BK585 := bb_ BK585.out hb
               replace BK599 := bb_ BK599.out hb
               replace BK600 := bb_ BK600.out hb
               replace BK619 := bb_ BK619.out hb
               replace HB := hs_ hb
               (try clear hb)
               (try clear hb2)
               (try clear hk)
               (try clear hi)
               refine hK.out _ _ ⟨(blk_cell BK599.out 0).trans rfl, (blk_cell BK599.out 1).trans rfl, (blk_cell BK599.out 2).trans rfl, (blk_cell BK599.out 3).trans rfl, (blk_cell BK599.out 4).trans rfl, (blk_cell BK619.out 0).trans rfl, (blk_cell BK619.out 1).trans rfl, (blk_cell BK619.out 2).trans rfl, (blk_cell BK619.out 3).trans rfl, (blk_cell BK619.out 4).trans rfl, (blk_cell BK600.out 0).trans rfl, (blk_cell BK600.out 1).trans rfl, (blk_cell BK600.out 2).trans rfl, (blk_cell BK600.out 3).trans rfl, (blk_cell BK600.out 4).trans rfl, (blk_cell BK550.out 0).trans rfl, (blk_cell BK550.out 1).trans rfl, (blk_cell BK550.out 2).trans rfl, (blk_cell BK550.out 3).trans rfl, (blk_cell BK550.out 4).trans rfl⟩ (fun hHeld => ?_)
               clear hK K
               refine norm_ (a' := ?_) ?_ ?_
               rotate_left
               ·show Act.put _ (some 169) _ = _
                simp only [Act.put, List.setIfInBounds_toArray, List.set_cons_zero, List.set_cons_succ, i64_w, i32_w]
                rfl
               refine pure_ (i := 9) (N := some 170) (v := ?_) (a' := ?_) #[true, true, true, true, true, true, true, true, true, true, false, false, false, false, false, false, false, false, false] rfl rfl (any_of HT_.out (by kernel_rfl)) (fun _ _ _ h => h) (Or.inl ⟨by rfl, ?_⟩) ?_ ?_
               rotate_left
               ·intro w'
                go_simp
                with_reducible rfl
               rotate_left
               ·simp only [Act.put, List.setIfInBounds_toArray, List.set_cons_zero, List.set_cons_succ, i64_w, i32_w]
                rfl
               refine pure_ (i := 10) (N := some 171) (v := ?_) (a' := ?_) #[true, true, true, true, true, true, true, true, true, true, true, false, false, false, false, false, false, false, false] rfl rfl (any_of HT_.out (by kernel_rfl)) (fun _ _ _ h => h) (Or.inl ⟨by rfl, ?_⟩) ?_ ?_
               rotate_left
               ·intro w'
                go_simp
                with_reducible rfl
               rotate_left
               ·simp only [Act.put, List.setIfInBounds_toArray, List.set_cons_zero, List.set_cons_succ, i64_w, i32_w]
                rfl
               refine pure_ (i := 11) (N := some 172) (v := ?_) (a' := ?_) #[true, true, true, true, true, true, true, true, true, true, true, true, false, false, false, false, false, false, false] rfl rfl (any_of HT_.out (by kernel_rfl)) (fun _ _ _ h => h) (Or.inl ⟨by rfl, ?_⟩) ?_ ?_
               rotate_left
               ·intro w'
                go_simp
                with_reducible rfl
               rotate_left
               ·simp only [Act.put, List.setIfInBounds_toArray, List.set_cons_zero, List.set_cons_succ, i64_w, i32_w]
                rfl
               refine pure_ (i := 12) (N := some 173) (v := ?_) (a' := ?_) #[true, true, true, true, true, true, true, true, true, true, true, true, true, false, false, false, false, false, false] rfl rfl (any_of HT_.out (by kernel_rfl)) (fun _ _ _ h => h) (Or.inl ⟨by rfl, ?_⟩) ?_ ?_
               rotate_left
               ·intro w'
                go_simp
                with_reducible rfl
               rotate_left
               ·simp only [Act.put, List.setIfInBounds_toArray, List.set_cons_zero, List.set_cons_succ, i64_w, i32_w]
                rfl
               refine pure_ (i := 13) (N := some 174) (v := ?_) (a' := ?_) #[true, true, true, true, true, true, true, true, true, true, true, true, true, true, false, false, false, false, false] rfl rfl (any_of HT_.out (by kernel_rfl)) (fun _ _ _ h => h) (Or.inl ⟨by rfl, ?_⟩) ?_ ?_
               rotate_left
               ·intro w'
                go_simp
                with_reducible rfl
               rotate_left
               ·simp only [Act.put, List.setIfInBounds_toArray, List.set_cons_zero, List.set_cons_succ, i64_w, i32_w]
                rfl
               refine pure_ (i := 14) (N := some 175) (v := ?_) (a' := ?_) #[true, true, true, true, true, true, true, true, true, true, true, true, true, true, true, false, false, false, false] rfl rfl (any_of HT_.out (by kernel_rfl)) (fun _ _ _ h => h) (Or.inl ⟨by rfl, ?_⟩) ?_ ?_
               rotate_left
               ·intro w'
                go_simp
                with_reducible rfl
               rotate_left
               ·simp only [Act.put, List.setIfInBounds_toArray, List.set_cons_zero, List.set_cons_succ, i64_w, i32_w]
                rfl
               refine pure_ (i := 15) (N := some 176) (v := ?_) (a' := ?_) #[true, true, true, true, true, true, true, true, true, true, true, true, true, true, true, true, false, false, false] rfl rfl (any_of HT_.out (by kernel_rfl)) (fun _ _ _ h => h) (Or.inl ⟨by rfl, ?_⟩) ?_ ?_
               rotate_left
               ·intro w'
                go_simp
                with_reducible rfl
               rotate_left
               ·simp only [Act.put, List.setIfInBounds_toArray, List.set_cons_zero, List.set_cons_succ, i64_w, i32_w]
                rfl
               refine one_ (i := 16) (N := some 177) #[true, true, true, true, true, true, true, true, true, true, true, true, true, true, true, true, true, false, false] rfl rfl (one_of HT_.out (by kernel_rfl)) (by decide) (fun K hK => ?_)
               refine goes_ Try.func10 (by kernel_rfl) rfl #[] (by rfl) rfl rfl ga_ ?_
               with_reducible refine (paymasterlaw14_awake.calls kj42  t631 _ A162.out).mono ?_
               rintro e w199 ⟨rfl, hb⟩
               refine ⟨_, rfl, ?_⟩
               replace HO_585003 := rl_ HO_585003.out hb
               replace HO_585004 := rl_ HO_585004.out hb
               replace HO_586003 := rl_ HO_586003.out hb
               replace HO_586004 := rl_ HO_586004.out hb
               replace HO606 := Aside0.mk (Kd.V_below (by refine kv_ ?_; exact HO606.out) hb)
               replace HO609 := rl_ HO609.out hb
               replace HO615 := rl_ HO615.out hb
               replace HO618 := rl_ HO618.out hb
               replace HO626 := rl_ HO626.out hb
               replace HO629 := rl_ HO629.out hb
               replace BK549 := bb_ BK549.out hb
               replace BK550 := bb_ BK550.out hb
               replace BK584 := bb_ BK584.out hb
               replace BK585 := bb_ BK585.out hb
               replace BK599 := bb_ BK599.out hb
               replace BK600 := bb_ BK600.out hb
               replace BK619 := bb_ BK619.out hb
               replace HB := hs_ hb
               (try clear hb)
               (try clear hb2)
               (try clear hk)
               (try clear hi)
               refine hK.out _ _ ⟨(blk_cell BK599.out 0).trans rfl, (blk_cell BK599.out 1).trans rfl, (blk_cell BK599.out 2).trans rfl, (blk_cell BK599.out 3).trans rfl, (blk_cell BK599.out 4).trans rfl, (blk_cell BK619.out 0).trans rfl, (blk_cell BK619.out 1).trans rfl, (blk_cell BK619.out 2).trans rfl, (blk_cell BK619.out 3).trans rfl, (blk_cell BK619.out 4).trans rfl, (blk_cell BK600.out 0).trans rfl, (blk_cell BK600.out 1).trans rfl, (blk_cell BK600.out 2).trans rfl, (blk_cell BK600.out 3).trans rfl, (blk_cell BK600.out 4).trans rfl, (blk_cell BK550.out 0).trans rfl, (blk_cell BK550.out 1).trans rfl, (blk_cell BK550.out 2).trans rfl, (blk_cell BK550.out 3).trans rfl, (blk_cell BK550.out 4).trans rfl⟩ (fun hHeld => ?_)
               clear hK K
               refine norm_ (a' := ?_) ?_ ?_
               rotate_left
               ·show Act.put _ (some 177) _ = _
                simp only [Act.put, List.setIfInBounds_toArray, List.set_cons_zero, List.set_cons_succ, i64_w, i32_w]
                rfl
               refine pure_ (i := 17) (N := some 178) (v := ?_) (a' := ?_) #[true, true, true, true, true, true, true, true, true, true, true, true, true, true, true, true, true, true, false] rfl rfl (any_of HT_.out (by kernel_rfl)) (fun _ _ _ h => h) (Or.inl ⟨by rfl, ?_⟩) ?_ ?_
               rotate_left
               ·intro w'
                go_simp
                with_reducible rfl
               rotate_left
               ·simp only [Act.put, List.setIfInBounds_toArray, List.set_cons_zero, List.set_cons_succ, i64_w, i32_w]
                rfl
               refine pure_ (i := 18) (N := some 8) (v := ?_) (a' := ?_) #[true, true, true, true, true, true, true, true, true, true, true, true, true, true, true, true, true, true, true] rfl rfl (any_of HT_.out (by kernel_rfl)) (fun _ _ _ h => h) (Or.inl ⟨by rfl, ?_⟩) ?_ ?_
               rotate_left
               ·intro w'
                go_simp
                with_reducible rfl
               rotate_left
               ·simp only [Act.put, List.setIfInBounds_toArray, List.set_cons_zero, List.set_cons_succ, i64_w, i32_w]
                rfl
               refine done_ (done_of HT_.out (by kernel_rfl)) ?_
               try go_wp2
               go_ret
               exact ⟨se_, bl_⟩
              ·rw [if_neg c161] at H
               exact absurd H (by simp)
             ·replace c160 := Bool.eq_false_iff.mpr c160
              subst c160
              rw [if_neg (show ¬ (false = true) by decide)] at H
              exact absurd H (by simp)
            ·replace c157 := Bool.eq_false_iff.mpr c157
             subst c157
             rw [if_neg (show ¬ (false = true) by decide)] at H
             exact absurd H (by simp)
           ·rw [if_neg c153] at H
            have c153b0 : (x14_42 == 0) = false := beq_eq_false_iff_ne.mpr c153
            have c153b1 : (x14_42 != 0) = true := bne_iff_ne.mpr c153
            replace H := Option.bind_eq_some_iff.mp H
            obtain ⟨t601, A2000, H⟩ := H
            (try dsimp only at H)
            have A200 := Aside0.mk A2000
            clear A2000
            by_cases c201 : t601 = true
            ·subst c201
             rw [if_pos rfl] at H
             replace H := Option.bind_eq_some_iff.mp H
             obtain ⟨t602, A2020, H⟩ := H
             (try dsimp only at H)
             have A202 := Aside0.mk A2020
             clear A2020
             by_cases c203 : t602 = true
             ·subst c203
              rw [if_pos rfl] at H
              by_cases c204 : t583 = x14_42
              ·rw [if_pos c204] at H
               have c204b0 : (t583 == x14_42) = true := beq_iff_eq.mpr c204
               have c204b1 : (t583 != x14_42) = false := bne_eq_false_iff_eq.mpr c204
               clear c204
               replace H := Option.bind_eq_some_iff.mp H
               obtain ⟨t603, A2050, H⟩ := H
               (try dsimp only at H)
               have A205 := Aside0.mk A2050
               clear A2050
               obtain rfl := Option.some.inj H
               try go_wp2
               replace HO_585003 := Aside0.mk (Kd.R_drew HO_585003.out)
               replace HO_585004 := Aside0.mk (Kd.R_drew HO_585004.out)
               replace HO_586003 := Aside0.mk (Kd.R_drew HO_586003.out)
               replace HO_586004 := Aside0.mk (Kd.R_drew HO_586004.out)
               replace BK549 := Aside0.mk (blk_drew BK549.out)
               replace BK550 := Aside0.mk (blk_drew BK550.out)
               replace BK584 := Aside0.mk (blk_drew BK584.out)
               replace BK585 := Aside0.mk (blk_drew BK585.out)
               replace HB := Aside0.mk (below_drew1 HB.out)
               refine start_ (n := 6) (S := fun w' => w'.cell? ⟨gb584, 0, none⟩ = some (.int .i64 t565) ∧ w'.cell? ⟨gb584, 1, none⟩ = some (.int .i64 t566) ∧ w'.cell? ⟨gb584, 2, none⟩ = some (.int .i64 t567) ∧ w'.cell? ⟨gb584, 3, none⟩ = some (.slice Ao54 t568.length co54) ∧ w'.cell? ⟨gb584, 4, none⟩ = some (.slice Ao55 t571.length co55) ∧ w'.cell? ⟨gb585, 0, none⟩ = some (.int .i64 t574) ∧ w'.cell? ⟨gb585, 1, none⟩ = some (.int .i64 t575) ∧ w'.cell? ⟨gb585, 2, none⟩ = some (.int .i64 t576) ∧ w'.cell? ⟨gb585, 3, none⟩ = some (.slice Ao59 t577.length co59) ∧ w'.cell? ⟨gb585, 4, none⟩ = some (.slice Ao60 t580.length co60)) (ds := []) #[false, false, false, false, false, false] (by kernel_rfl) rfl rfl ⟨(blk_cell BK584.out 0).trans rfl, (blk_cell BK584.out 1).trans rfl, (blk_cell BK584.out 2).trans rfl, (blk_cell BK584.out 3).trans rfl, (blk_cell BK584.out 4).trans rfl, (blk_cell BK585.out 0).trans rfl, (blk_cell BK585.out 1).trans rfl, (blk_cell BK585.out 2).trans rfl, (blk_cell BK585.out 3).trans rfl, (blk_cell BK585.out 4).trans rfl⟩ (fun hHeld => ?_)
               generalize wc.drew = w206 at HO_585003 HO_585004 HO_586003 HO_586004 BK549 BK550 BK584 BK585 HB hHeld ⊢
               refine take_ (i := 0) (N := some 130) (v := ?_) (a' := ?_) #[true, false, false, false, false, false] rfl rfl (by kernel_rfl) (fun _ _ _ h => h) (Or.inl ⟨by rfl, ?_⟩) hHeld ?_ ?_
               rotate_left
               ·rintro w' ⟨s0, s1, s2, s3, s4, s5, s6, s7, s8, s9⟩
                go_simp
                with_reducible rfl
               rotate_left
               ·simp only [Act.put, List.setIfInBounds_toArray, List.set_cons_zero, List.set_cons_succ, i64_w, i32_w]
                rfl
               refine take_ (i := 1) (N := some 131) (v := ?_) (a' := ?_) #[true, true, false, false, false, false] rfl rfl (by kernel_rfl) (fun _ _ _ h => h) (Or.inl ⟨by rfl, ?_⟩) hHeld ?_ ?_
               rotate_left
               ·rintro w' ⟨s0, s1, s2, s3, s4, s5, s6, s7, s8, s9⟩
                go_simp
                with_reducible rfl
               rotate_left
               ·simp only [Act.put, List.setIfInBounds_toArray, List.set_cons_zero, List.set_cons_succ, i64_w, i32_w]
                rfl
               refine join_ (σ := Nat × Nat) 2 #[true, true, true, true, false, false] (fun s_ => [(16, .pointer (some ⟨s_.1, 0, none⟩)), (17, .pointer (some ⟨s_.2, 0, none⟩))]) (fun s_ w' => (w'.cell? ⟨gb584, 0, none⟩ = some (.int .i64 t565) ∧ w'.cell? ⟨gb584, 1, none⟩ = some (.int .i64 t566) ∧ w'.cell? ⟨gb584, 2, none⟩ = some (.int .i64 t567) ∧ w'.cell? ⟨gb584, 3, none⟩ = some (.slice Ao54 t568.length co54) ∧ w'.cell? ⟨gb584, 4, none⟩ = some (.slice Ao55 t571.length co55) ∧ w'.cell? ⟨gb585, 0, none⟩ = some (.int .i64 t574) ∧ w'.cell? ⟨gb585, 1, none⟩ = some (.int .i64 t575) ∧ w'.cell? ⟨gb585, 2, none⟩ = some (.int .i64 t576) ∧ w'.cell? ⟨gb585, 3, none⟩ = some (.slice Ao59 t577.length co59) ∧ w'.cell? ⟨gb585, 4, none⟩ = some (.slice Ao60 t580.length co60)) ∧ (Kd.R (Kd.int .i64) 3 w' w.heap.size (fun k_ => some k_ ≠ (.slice Ao55 t571.length co55 : Value).ownBlock ∧ some k_ ≠ (.slice Ao59 t577.length co59 : Value).ownBlock ∧ some k_ ≠ (.slice Ao60 t580.length co60 : Value).ownBlock) (.slice Ao54 t568.length co54) t568) ∧ (Kd.R (Kd.int .i64) 3 w' w.heap.size (fun k_ => some k_ ≠ (.slice Ao54 t568.length co54 : Value).ownBlock ∧ some k_ ≠ (.slice Ao59 t577.length co59 : Value).ownBlock ∧ some k_ ≠ (.slice Ao60 t580.length co60 : Value).ownBlock) (.slice Ao55 t571.length co55) t571) ∧ (Kd.R (Kd.int .i64) 3 w' w.heap.size (fun k_ => some k_ ≠ (.slice Ao54 t568.length co54 : Value).ownBlock ∧ some k_ ≠ (.slice Ao55 t571.length co55 : Value).ownBlock ∧ some k_ ≠ (.slice Ao60 t580.length co60 : Value).ownBlock) (.slice Ao59 t577.length co59) t577) ∧ (Kd.R (Kd.int .i64) 3 w' w.heap.size (fun k_ => some k_ ≠ (.slice Ao54 t568.length co54 : Value).ownBlock ∧ some k_ ≠ (.slice Ao55 t571.length co55 : Value).ownBlock ∧ some k_ ≠ (.slice Ao59 t577.length co59 : Value).ownBlock) (.slice Ao60 t580.length co60) t580) ∧ (w'.heap[gb549]? = some (.cells #[.slice A0_0 l0_0.length c0_0, .slice A0_1 l0_1.length c0_1] 25 (0, 0))) ∧ (w'.heap[gb550]? = some (.cells #[.int .i64 a1_0, .int .i64 a1_1, .int .i64 a1_2, .slice A1_3 l1_3.length c1_3, .slice A1_4 l1_4.length c1_4] 30 (0, 0))) ∧ (w'.heap[gb584]? = some (.cells #[.int .i64 t565, .int .i64 t566, .int .i64 t567, .slice Ao54 t568.length co54, .slice Ao55 t571.length co55] 30 (0, 0))) ∧ (w'.heap[gb585]? = some (.cells #[.int .i64 t574, .int .i64 t575, .int .i64 t576, .slice Ao59 t577.length co59, .slice Ao60 t580.length co60] 30 (0, 0))) ∧ (w'.heap[s_.1]? = some (.cells #[.int .i64 0, .int .i64 0, .int .i64 0, .slice none 0 0, .slice none 0 0] 35 (0, 0))) ∧ (w'.heap[s_.2]? = some (.cells #[.int .i64 0, .int .i64 0, .int .i64 0, .slice none 0 0, .slice none 0 0] 35 (0, 0))) ∧ (w.heap.size ≤ s_.1) ∧ (w.heap.size ≤ s_.1) ∧ (gb549 ≠ s_.1) ∧ (s_.1 ≠ gb549) ∧ (gb550 ≠ s_.1) ∧ (s_.1 ≠ gb550) ∧ (gb584 ≠ s_.1) ∧ (s_.1 ≠ gb584) ∧ (gb585 ≠ s_.1) ∧ (s_.1 ≠ gb585) ∧ (s_.2 ≠ s_.1) ∧ (s_.1 ≠ s_.2) ∧ (w.heap.size ≤ s_.2) ∧ (w.heap.size ≤ s_.2) ∧ (gb549 ≠ s_.2) ∧ (s_.2 ≠ gb549) ∧ (gb550 ≠ s_.2) ∧ (s_.2 ≠ gb550) ∧ (gb584 ≠ s_.2) ∧ (s_.2 ≠ gb584) ∧ (gb585 ≠ s_.2) ∧ (s_.2 ≠ gb585) ∧ (Below w.heap.size w w')) ?_ ?_
               rotate_left
               ·intro hCont
                refine two_ (i := 2) (j := 3) (Ni := some 16) (Nj := some 17) #[true, true, true, false, false, false] #[true, true, false, true, false, false] rfl rfl rfl rfl (by kernel_rfl) (by decide) (by decide) (fun K hK => ?_) (fun K hK => ?_)
                ·skip
                 refine box_step ?hg (N := 16) ?hd (cs := #[.int .i64 0, .int .i64 0, .int .i64 0, .slice none 0 0, .slice none 0 0]) (t := 35) ?hr ?_; (case hd => rfl); (case hg => rfl); (case hr => first | (go_simp; done) | (go_simp; rfl))
                 intro gb599 hg w207 hbox hb
                 have BK599 := Aside0.mk hbox
                 have GW599 := gs_ hg
                 have GE599 := gs_ hg
                 have NB549_599 := nl_ hg BK549.out
                 have NB599_549 := ng_ hg BK549.out
                 have NB550_599 := nl_ hg BK550.out
                 have NB599_550 := ng_ hg BK550.out
                 have NB584_599 := nl_ hg BK584.out
                 have NB599_584 := ng_ hg BK584.out
                 have NB585_599 := nl_ hg BK585.out
                 have NB599_585 := ng_ hg BK585.out
                 replace HO_585003 := rl_ HO_585003.out hb
                 replace HO_585004 := rl_ HO_585004.out hb
                 replace HO_586003 := rl_ HO_586003.out hb
                 replace HO_586004 := rl_ HO_586004.out hb
                 replace BK549 := bb_ BK549.out hb
                 replace BK550 := bb_ BK550.out hb
                 replace BK584 := bb_ BK584.out hb
                 replace BK585 := bb_ BK585.out hb
                 replace HB := hs_ hb
                 clear hb hbox hg
                 refine hK.out _ _ ⟨(blk_cell BK584.out 0).trans rfl, (blk_cell BK584.out 1).trans rfl, (blk_cell BK584.out 2).trans rfl, (blk_cell BK584.out 3).trans rfl, (blk_cell BK584.out 4).trans rfl, (blk_cell BK585.out 0).trans rfl, (blk_cell BK585.out 1).trans rfl, (blk_cell BK585.out 2).trans rfl, (blk_cell BK585.out 3).trans rfl, (blk_cell BK585.out 4).trans rfl⟩ (fun hHeld => ?_)
                 clear hK K
                 refine norm_ (a' := ?_) ?_ ?_
                 rotate_left
                 ·show Act.put _ (some 16) _ = _
                  simp only [Act.put, List.setIfInBounds_toArray, List.set_cons_zero, List.set_cons_succ, i64_w, i32_w]
                  rfl
                 refine one_ (i := 3) (N := some 17) #[true, true, true, true, false, false] rfl rfl (by kernel_rfl) (by decide) (fun K hK => ?_)
                 refine box_step ?hg (N := 17) ?hd (cs := #[.int .i64 0, .int .i64 0, .int .i64 0, .slice none 0 0, .slice none 0 0]) (t := 35) ?hr ?_; (case hd => rfl); (case hg => rfl); (case hr => first | (go_simp; done) | (go_simp; rfl))
                 intro gb600 hg w208 hbox hb
                 have BK600 := Aside0.mk hbox
                 have GW600 := gs_ hg
                 have GE600 := gs_ hg
                 have NB549_600 := nl_ hg BK549.out
                 have NB600_549 := ng_ hg BK549.out
                 have NB550_600 := nl_ hg BK550.out
                 have NB600_550 := ng_ hg BK550.out
                 have NB584_600 := nl_ hg BK584.out
                 have NB600_584 := ng_ hg BK584.out
                 have NB585_600 := nl_ hg BK585.out
                 have NB600_585 := ng_ hg BK585.out
                 have NB599_600 := nl_ hg BK599.out
                 have NB600_599 := ng_ hg BK599.out
                 replace HO_585003 := rl_ HO_585003.out hb
                 replace HO_585004 := rl_ HO_585004.out hb
                 replace HO_586003 := rl_ HO_586003.out hb
                 replace HO_586004 := rl_ HO_586004.out hb
                 replace BK549 := bb_ BK549.out hb
                 replace BK550 := bb_ BK550.out hb
                 replace BK584 := bb_ BK584.out hb
                 replace BK585 := bb_ BK585.out hb
                 replace BK599 := bb_ BK599.out hb
                 replace HB := hs_ hb
                 clear hb hbox hg
                 refine hK.out _ _ ⟨(blk_cell BK584.out 0).trans rfl, (blk_cell BK584.out 1).trans rfl, (blk_cell BK584.out 2).trans rfl, (blk_cell BK584.out 3).trans rfl, (blk_cell BK584.out 4).trans rfl, (blk_cell BK585.out 0).trans rfl, (blk_cell BK585.out 1).trans rfl, (blk_cell BK585.out 2).trans rfl, (blk_cell BK585.out 3).trans rfl, (blk_cell BK585.out 4).trans rfl⟩ (fun hHeld => ?_)
                 clear hK K
                 refine norm_ (a' := ?_) ?_ ?_
                 rotate_left
                 ·show Act.put _ (some 17) _ = _
                  simp only [Act.put, List.setIfInBounds_toArray, List.set_cons_zero, List.set_cons_succ, i64_w, i32_w]
                  rfl
                 exact norm_ (by simp only [putAll, Act.put, List.setIfInBounds_toArray, List.set_cons_zero, List.set_cons_succ]) (hCont (gb599, gb600) _ ⟨hHeld, (rs_ HO_585003.out), (rs_ HO_585004.out), (rs_ HO_586003.out), (rs_ HO_586004.out), (bq_ BK549.out), (bq_ BK550.out), (bq_ BK584.out), (bq_ BK585.out), (bq_ BK599.out), (bq_ BK600.out), GW599.out, GE599.out, NB549_599.out, NB599_549.out, NB550_599.out, NB599_550.out, NB584_599.out, NB599_584.out, NB585_599.out, NB599_585.out, NB600_599.out, NB599_600.out, GW600.out, GE600.out, NB549_600.out, NB600_549.out, NB550_600.out, NB600_550.out, NB584_600.out, NB600_584.out, NB585_600.out, NB600_585.out, bl_⟩)
                ·skip
                 refine box_step ?hg (N := 17) ?hd (cs := #[.int .i64 0, .int .i64 0, .int .i64 0, .slice none 0 0, .slice none 0 0]) (t := 35) ?hr ?_; (case hd => rfl); (case hg => rfl); (case hr => first | (go_simp; done) | (go_simp; rfl))
                 intro gb600 hg w207 hbox hb
                 have BK600 := Aside0.mk hbox
                 have GW600 := gs_ hg
                 have GE600 := gs_ hg
                 have NB549_600 := nl_ hg BK549.out
                 have NB600_549 := ng_ hg BK549.out
                 have NB550_600 := nl_ hg BK550.out
                 have NB600_550 := ng_ hg BK550.out
                 have NB584_600 := nl_ hg BK584.out
                 have NB600_584 := ng_ hg BK584.out
                 have NB585_600 := nl_ hg BK585.out
                 have NB600_585 := ng_ hg BK585.out
                 replace HO_585003 := rl_ HO_585003.out hb
                 replace HO_585004 := rl_ HO_585004.out hb
                 replace HO_586003 := rl_ HO_586003.out hb
                 replace HO_586004 := rl_ HO_586004.out hb
                 replace BK549 := bb_ BK549.out hb
                 replace BK550 := bb_ BK550.out hb
                 replace BK584 := bb_ BK584.out hb
                 replace BK585 := bb_ BK585.out hb
                 replace HB := hs_ hb
                 clear hb hbox hg
                 refine hK.out _ _ ⟨(blk_cell BK584.out 0).trans rfl, (blk_cell BK584.out 1).trans rfl, (blk_cell BK584.out 2).trans rfl, (blk_cell BK584.out 3).trans rfl, (blk_cell BK584.out 4).trans rfl, (blk_cell BK585.out 0).trans rfl, (blk_cell BK585.out 1).trans rfl, (blk_cell BK585.out 2).trans rfl, (blk_cell BK585.out 3).trans rfl, (blk_cell BK585.out 4).trans rfl⟩ (fun hHeld => ?_)
                 clear hK K
                 refine norm_ (a' := ?_) ?_ ?_
                 rotate_left
                 ·show Act.put _ (some 17) _ = _
                  simp only [Act.put, List.setIfInBounds_toArray, List.set_cons_zero, List.set_cons_succ, i64_w, i32_w]
                  rfl
                 refine one_ (i := 2) (N := some 16) #[true, true, true, true, false, false] rfl rfl (by kernel_rfl) (by decide) (fun K hK => ?_)
                 refine box_step ?hg (N := 16) ?hd (cs := #[.int .i64 0, .int .i64 0, .int .i64 0, .slice none 0 0, .slice none 0 0]) (t := 35) ?hr ?_; (case hd => rfl); (case hg => rfl); (case hr => first | (go_simp; done) | (go_simp; rfl))
                 intro gb599 hg w208 hbox hb
                 have BK599 := Aside0.mk hbox
                 have GW599 := gs_ hg
                 have GE599 := gs_ hg
                 have NB549_599 := nl_ hg BK549.out
                 have NB599_549 := ng_ hg BK549.out
                 have NB550_599 := nl_ hg BK550.out
                 have NB599_550 := ng_ hg BK550.out
                 have NB584_599 := nl_ hg BK584.out
                 have NB599_584 := ng_ hg BK584.out
                 have NB585_599 := nl_ hg BK585.out
                 have NB599_585 := ng_ hg BK585.out
                 have NB600_599 := nl_ hg BK600.out
                 have NB599_600 := ng_ hg BK600.out
                 replace HO_585003 := rl_ HO_585003.out hb
                 replace HO_585004 := rl_ HO_585004.out hb
                 replace HO_586003 := rl_ HO_586003.out hb
                 replace HO_586004 := rl_ HO_586004.out hb
                 replace BK549 := bb_ BK549.out hb
                 replace BK550 := bb_ BK550.out hb
                 replace BK584 := bb_ BK584.out hb
                 replace BK585 := bb_ BK585.out hb
                 replace BK600 := bb_ BK600.out hb
                 replace HB := hs_ hb
                 clear hb hbox hg
                 refine hK.out _ _ ⟨(blk_cell BK584.out 0).trans rfl, (blk_cell BK584.out 1).trans rfl, (blk_cell BK584.out 2).trans rfl, (blk_cell BK584.out 3).trans rfl, (blk_cell BK584.out 4).trans rfl, (blk_cell BK585.out 0).trans rfl, (blk_cell BK585.out 1).trans rfl, (blk_cell BK585.out 2).trans rfl, (blk_cell BK585.out 3).trans rfl, (blk_cell BK585.out 4).trans rfl⟩ (fun hHeld => ?_)
                 clear hK K
                 refine norm_ (a' := ?_) ?_ ?_
                 rotate_left
                 ·show Act.put _ (some 16) _ = _
                  simp only [Act.put, List.setIfInBounds_toArray, List.set_cons_zero, List.set_cons_succ, i64_w, i32_w]
                  rfl
                 exact norm_ (by simp only [putAll, Act.put, List.setIfInBounds_toArray, List.set_cons_zero, List.set_cons_succ]) (hCont (gb599, gb600) _ ⟨hHeld, (rs_ HO_585003.out), (rs_ HO_585004.out), (rs_ HO_586003.out), (rs_ HO_586004.out), (bq_ BK549.out), (bq_ BK550.out), (bq_ BK584.out), (bq_ BK585.out), (bq_ BK599.out), (bq_ BK600.out), GW599.out, GE599.out, NB549_599.out, NB599_549.out, NB550_599.out, NB599_550.out, NB584_599.out, NB599_584.out, NB585_599.out, NB599_585.out, NB600_599.out, NB599_600.out, GW600.out, GE600.out, NB549_600.out, NB600_549.out, NB550_600.out, NB600_550.out, NB584_600.out, NB600_584.out, NB585_600.out, NB600_585.out, bl_⟩)
               rintro ⟨gb599, gb600⟩ w209 ⟨hS_, h0_, h1_, h2_, h3_, h4_, h5_, h6_, h7_, h8_, h9_, h10_, h11_, h12_, h13_, h14_, h15_, h16_, h17_, h18_, h19_, h20_, h21_, h22_, h23_, h24_, h25_, h26_, h27_, h28_, h29_, h30_, h31_, h32_⟩
               have BK599 : Aside0 (w209.heap[gb599]? = some (.cells #[.int .i64 0, .int .i64 0, .int .i64 0, .slice none 0 0, .slice none 0 0] 35 (0, 0))) := ⟨h8_⟩
               have BK600 : Aside0 (w209.heap[gb600]? = some (.cells #[.int .i64 0, .int .i64 0, .int .i64 0, .slice none 0 0, .slice none 0 0] 35 (0, 0))) := ⟨h9_⟩
               have GW599 : Aside0 (w.heap.size ≤ gb599) := ⟨h10_⟩
               have GE599 : Aside0 (w.heap.size ≤ gb599) := ⟨h11_⟩
               have NB549_599 : Aside0 (gb549 ≠ gb599) := ⟨h12_⟩
               have NB599_549 : Aside0 (gb599 ≠ gb549) := ⟨h13_⟩
               have NB550_599 : Aside0 (gb550 ≠ gb599) := ⟨h14_⟩
               have NB599_550 : Aside0 (gb599 ≠ gb550) := ⟨h15_⟩
               have NB584_599 : Aside0 (gb584 ≠ gb599) := ⟨h16_⟩
               have NB599_584 : Aside0 (gb599 ≠ gb584) := ⟨h17_⟩
               have NB585_599 : Aside0 (gb585 ≠ gb599) := ⟨h18_⟩
               have NB599_585 : Aside0 (gb599 ≠ gb585) := ⟨h19_⟩
               have NB600_599 : Aside0 (gb600 ≠ gb599) := ⟨h20_⟩
               have NB599_600 : Aside0 (gb599 ≠ gb600) := ⟨h21_⟩
               have GW600 : Aside0 (w.heap.size ≤ gb600) := ⟨h22_⟩
               have GE600 : Aside0 (w.heap.size ≤ gb600) := ⟨h23_⟩
               have NB549_600 : Aside0 (gb549 ≠ gb600) := ⟨h24_⟩
               have NB600_549 : Aside0 (gb600 ≠ gb549) := ⟨h25_⟩
               have NB550_600 : Aside0 (gb550 ≠ gb600) := ⟨h26_⟩
               have NB600_550 : Aside0 (gb600 ≠ gb550) := ⟨h27_⟩
               have NB584_600 : Aside0 (gb584 ≠ gb600) := ⟨h28_⟩
               have NB600_584 : Aside0 (gb600 ≠ gb584) := ⟨h29_⟩
               have NB585_600 : Aside0 (gb585 ≠ gb600) := ⟨h30_⟩
               have NB600_585 : Aside0 (gb600 ≠ gb585) := ⟨h31_⟩
               replace HO_585003 : Aside0 (Kd.R (Kd.int .i64) 3 w209 w.heap.size (fun k_ => some k_ ≠ (.slice Ao55 t571.length co55 : Value).ownBlock ∧ some k_ ≠ (.slice Ao59 t577.length co59 : Value).ownBlock ∧ some k_ ≠ (.slice Ao60 t580.length co60 : Value).ownBlock) (.slice Ao54 t568.length co54) t568) := ⟨h0_⟩
               replace HO_585004 : Aside0 (Kd.R (Kd.int .i64) 3 w209 w.heap.size (fun k_ => some k_ ≠ (.slice Ao54 t568.length co54 : Value).ownBlock ∧ some k_ ≠ (.slice Ao59 t577.length co59 : Value).ownBlock ∧ some k_ ≠ (.slice Ao60 t580.length co60 : Value).ownBlock) (.slice Ao55 t571.length co55) t571) := ⟨h1_⟩
               replace HO_586003 : Aside0 (Kd.R (Kd.int .i64) 3 w209 w.heap.size (fun k_ => some k_ ≠ (.slice Ao54 t568.length co54 : Value).ownBlock ∧ some k_ ≠ (.slice Ao55 t571.length co55 : Value).ownBlock ∧ some k_ ≠ (.slice Ao60 t580.length co60 : Value).ownBlock) (.slice Ao59 t577.length co59) t577) := ⟨h2_⟩
               replace HO_586004 : Aside0 (Kd.R (Kd.int .i64) 3 w209 w.heap.size (fun k_ => some k_ ≠ (.slice Ao54 t568.length co54 : Value).ownBlock ∧ some k_ ≠ (.slice Ao55 t571.length co55 : Value).ownBlock ∧ some k_ ≠ (.slice Ao59 t577.length co59 : Value).ownBlock) (.slice Ao60 t580.length co60) t580) := ⟨h3_⟩
               replace BK549 : Aside0 (w209.heap[gb549]? = some (.cells #[.slice A0_0 l0_0.length c0_0, .slice A0_1 l0_1.length c0_1] 25 (0, 0))) := ⟨h4_⟩
               replace BK550 : Aside0 (w209.heap[gb550]? = some (.cells #[.int .i64 a1_0, .int .i64 a1_1, .int .i64 a1_2, .slice A1_3 l1_3.length c1_3, .slice A1_4 l1_4.length c1_4] 30 (0, 0))) := ⟨h5_⟩
               replace BK584 : Aside0 (w209.heap[gb584]? = some (.cells #[.int .i64 t565, .int .i64 t566, .int .i64 t567, .slice Ao54 t568.length co54, .slice Ao55 t571.length co55] 30 (0, 0))) := ⟨h6_⟩
               replace BK585 : Aside0 (w209.heap[gb585]? = some (.cells #[.int .i64 t574, .int .i64 t575, .int .i64 t576, .slice Ao59 t577.length co59, .slice Ao60 t580.length co60] 30 (0, 0))) := ⟨h7_⟩
               replace HB : Aside0 (Below w.heap.size w w209) := ⟨h32_⟩
               clear h0_ h1_ h2_ h3_ h4_ h5_ h6_ h7_ h8_ h9_ h10_ h11_ h12_ h13_ h14_ h15_ h16_ h17_ h18_ h19_ h20_ h21_ h22_ h23_ h24_ h25_ h26_ h27_ h28_ h29_ h30_ h31_ h32_
               have hHeld : w209.cell? ⟨gb584, 0, none⟩ = some (.int .i64 t565) ∧ w209.cell? ⟨gb584, 1, none⟩ = some (.int .i64 t566) ∧ w209.cell? ⟨gb584, 2, none⟩ = some (.int .i64 t567) ∧ w209.cell? ⟨gb584, 3, none⟩ = some (.slice Ao54 t568.length co54) ∧ w209.cell? ⟨gb584, 4, none⟩ = some (.slice Ao55 t571.length co55) ∧ w209.cell? ⟨gb585, 0, none⟩ = some (.int .i64 t574) ∧ w209.cell? ⟨gb585, 1, none⟩ = some (.int .i64 t575) ∧ w209.cell? ⟨gb585, 2, none⟩ = some (.int .i64 t576) ∧ w209.cell? ⟨gb585, 3, none⟩ = some (.slice Ao59 t577.length co59) ∧ w209.cell? ⟨gb585, 4, none⟩ = some (.slice Ao60 t580.length co60) := hS_
               refine norm_ (a' := ?_) ?_ ?_
               rotate_left
               ·simp only [putAll, Act.put, List.setIfInBounds_toArray, List.set_cons_zero, List.set_cons_succ]
                rfl
               refine one_ (i := 4) (N := none) #[true, true, true, true, true, false] rfl rfl (by kernel_rfl) (by decide) (fun K hK => ?_)
               have hs210 : w209.cell? ⟨gb599, 0, none⟩ = some (.int .i64 0) := (blk_cell BK599.out 0).trans rfl
               have hfs210 := blk_frozen BK599.out 0
               have hns210_0 := NB549_599.out
               have hns210_1 := NB550_599.out
               have hns210_2 := NB584_599.out
               have hns210_3 := NB585_599.out
               have hns210_5 := NB600_599.out
               have hms210_0 := NB599_549.out
               have hms210_1 := NB599_550.out
               have hms210_2 := NB599_584.out
               have hms210_3 := NB599_585.out
               have hms210_5 := NB599_600.out
               have hs211 : w209.cell? ⟨gb599, 1, none⟩ = some (.int .i64 0) := (blk_cell BK599.out 1).trans rfl
               have hfs211 := blk_frozen BK599.out 1
               have hns211_0 := NB549_599.out
               have hns211_1 := NB550_599.out
               have hns211_2 := NB584_599.out
               have hns211_3 := NB585_599.out
               have hns211_5 := NB600_599.out
               have hms211_0 := NB599_549.out
               have hms211_1 := NB599_550.out
               have hms211_2 := NB599_584.out
               have hms211_3 := NB599_585.out
               have hms211_5 := NB599_600.out
               have hs212 : w209.cell? ⟨gb599, 2, none⟩ = some (.int .i64 0) := (blk_cell BK599.out 2).trans rfl
               have hfs212 := blk_frozen BK599.out 2
               have hns212_0 := NB549_599.out
               have hns212_1 := NB550_599.out
               have hns212_2 := NB584_599.out
               have hns212_3 := NB585_599.out
               have hns212_5 := NB600_599.out
               have hms212_0 := NB599_549.out
               have hms212_1 := NB599_550.out
               have hms212_2 := NB599_584.out
               have hms212_3 := NB599_585.out
               have hms212_5 := NB599_600.out
               have hs213 : w209.cell? ⟨gb599, 3, none⟩ = some (.slice none 0 0) := (blk_cell BK599.out 3).trans rfl
               have hfs213 := blk_frozen BK599.out 3
               have hns213_0 := NB549_599.out
               have hns213_1 := NB550_599.out
               have hns213_2 := NB584_599.out
               have hns213_3 := NB585_599.out
               have hns213_5 := NB600_599.out
               have hms213_0 := NB599_549.out
               have hms213_1 := NB599_550.out
               have hms213_2 := NB599_584.out
               have hms213_3 := NB599_585.out
               have hms213_5 := NB599_600.out
               have hs214 : w209.cell? ⟨gb599, 4, none⟩ = some (.slice none 0 0) := (blk_cell BK599.out 4).trans rfl
               have hfs214 := blk_frozen BK599.out 4
               have hns214_0 := NB549_599.out
               have hns214_1 := NB550_599.out
               have hns214_2 := NB584_599.out
               have hns214_3 := NB585_599.out
               have hns214_5 := NB600_599.out
               have hms214_0 := NB599_549.out
               have hms214_1 := NB599_550.out
               have hms214_2 := NB599_584.out
               have hms214_3 := NB599_585.out
               have hms214_5 := NB599_600.out
               refine skip_ (w1 := ?_) (by rfl) rfl ?_ ?_
               rotate_left
               ·go_simp
                rfl
               refine hK.out _ _ ⟨((cell_far (p := ⟨gb599, _, none⟩) NB584_599.out _).trans (((cell_far (p := ⟨gb599, _, none⟩) NB584_599.out _).trans (((cell_far (p := ⟨gb599, _, none⟩) NB584_599.out _).trans (((cell_far (p := ⟨gb599, _, none⟩) NB584_599.out _).trans (((cell_far (p := ⟨gb599, _, none⟩) NB584_599.out _).trans (hHeld.1)))))))))), ((cell_far (p := ⟨gb599, _, none⟩) NB584_599.out _).trans (((cell_far (p := ⟨gb599, _, none⟩) NB584_599.out _).trans (((cell_far (p := ⟨gb599, _, none⟩) NB584_599.out _).trans (((cell_far (p := ⟨gb599, _, none⟩) NB584_599.out _).trans (((cell_far (p := ⟨gb599, _, none⟩) NB584_599.out _).trans (hHeld.2.1)))))))))), ((cell_far (p := ⟨gb599, _, none⟩) NB584_599.out _).trans (((cell_far (p := ⟨gb599, _, none⟩) NB584_599.out _).trans (((cell_far (p := ⟨gb599, _, none⟩) NB584_599.out _).trans (((cell_far (p := ⟨gb599, _, none⟩) NB584_599.out _).trans (((cell_far (p := ⟨gb599, _, none⟩) NB584_599.out _).trans (hHeld.2.2.1)))))))))), ((cell_far (p := ⟨gb599, _, none⟩) NB584_599.out _).trans (((cell_far (p := ⟨gb599, _, none⟩) NB584_599.out _).trans (((cell_far (p := ⟨gb599, _, none⟩) NB584_599.out _).trans (((cell_far (p := ⟨gb599, _, none⟩) NB584_599.out _).trans (((cell_far (p := ⟨gb599, _, none⟩) NB584_599.out _).trans (hHeld.2.2.2.1)))))))))), ((cell_far (p := ⟨gb599, _, none⟩) NB584_599.out _).trans (((cell_far (p := ⟨gb599, _, none⟩) NB584_599.out _).trans (((cell_far (p := ⟨gb599, _, none⟩) NB584_599.out _).trans (((cell_far (p := ⟨gb599, _, none⟩) NB584_599.out _).trans (((cell_far (p := ⟨gb599, _, none⟩) NB584_599.out _).trans (hHeld.2.2.2.2.1)))))))))), ((cell_far (p := ⟨gb599, _, none⟩) NB585_599.out _).trans (((cell_far (p := ⟨gb599, _, none⟩) NB585_599.out _).trans (((cell_far (p := ⟨gb599, _, none⟩) NB585_599.out _).trans (((cell_far (p := ⟨gb599, _, none⟩) NB585_599.out _).trans (((cell_far (p := ⟨gb599, _, none⟩) NB585_599.out _).trans (hHeld.2.2.2.2.2.1)))))))))), ((cell_far (p := ⟨gb599, _, none⟩) NB585_599.out _).trans (((cell_far (p := ⟨gb599, _, none⟩) NB585_599.out _).trans (((cell_far (p := ⟨gb599, _, none⟩) NB585_599.out _).trans (((cell_far (p := ⟨gb599, _, none⟩) NB585_599.out _).trans (((cell_far (p := ⟨gb599, _, none⟩) NB585_599.out _).trans (hHeld.2.2.2.2.2.2.1)))))))))), ((cell_far (p := ⟨gb599, _, none⟩) NB585_599.out _).trans (((cell_far (p := ⟨gb599, _, none⟩) NB585_599.out _).trans (((cell_far (p := ⟨gb599, _, none⟩) NB585_599.out _).trans (((cell_far (p := ⟨gb599, _, none⟩) NB585_599.out _).trans (((cell_far (p := ⟨gb599, _, none⟩) NB585_599.out _).trans (hHeld.2.2.2.2.2.2.2.1)))))))))), ((cell_far (p := ⟨gb599, _, none⟩) NB585_599.out _).trans (((cell_far (p := ⟨gb599, _, none⟩) NB585_599.out _).trans (((cell_far (p := ⟨gb599, _, none⟩) NB585_599.out _).trans (((cell_far (p := ⟨gb599, _, none⟩) NB585_599.out _).trans (((cell_far (p := ⟨gb599, _, none⟩) NB585_599.out _).trans (hHeld.2.2.2.2.2.2.2.2.1)))))))))), ((cell_far (p := ⟨gb599, _, none⟩) NB585_599.out _).trans (((cell_far (p := ⟨gb599, _, none⟩) NB585_599.out _).trans (((cell_far (p := ⟨gb599, _, none⟩) NB585_599.out _).trans (((cell_far (p := ⟨gb599, _, none⟩) NB585_599.out _).trans (((cell_far (p := ⟨gb599, _, none⟩) NB585_599.out _).trans (hHeld.2.2.2.2.2.2.2.2.2))))))))))⟩ (fun hHeld => ?_)
               clear hK K
               refine one_ (i := 5) (N := none) #[true, true, true, true, true, true] rfl rfl (by kernel_rfl) (by decide) (fun K hK => ?_)
               have hs215 : w209.cell? ⟨gb600, 0, none⟩ = some (.int .i64 0) := (blk_cell BK600.out 0).trans rfl
               have hfs215 := blk_frozen BK600.out 0
               have hns215_0 := NB549_600.out
               have hns215_1 := NB550_600.out
               have hns215_2 := NB584_600.out
               have hns215_3 := NB585_600.out
               have hns215_4 := NB599_600.out
               have hms215_0 := NB600_549.out
               have hms215_1 := NB600_550.out
               have hms215_2 := NB600_584.out
               have hms215_3 := NB600_585.out
               have hms215_4 := NB600_599.out
               have hs216 : w209.cell? ⟨gb600, 1, none⟩ = some (.int .i64 0) := (blk_cell BK600.out 1).trans rfl
               have hfs216 := blk_frozen BK600.out 1
               have hns216_0 := NB549_600.out
               have hns216_1 := NB550_600.out
               have hns216_2 := NB584_600.out
               have hns216_3 := NB585_600.out
               have hns216_4 := NB599_600.out
               have hms216_0 := NB600_549.out
               have hms216_1 := NB600_550.out
               have hms216_2 := NB600_584.out
               have hms216_3 := NB600_585.out
               have hms216_4 := NB600_599.out
               have hs217 : w209.cell? ⟨gb600, 2, none⟩ = some (.int .i64 0) := (blk_cell BK600.out 2).trans rfl
               have hfs217 := blk_frozen BK600.out 2
               have hns217_0 := NB549_600.out
               have hns217_1 := NB550_600.out
               have hns217_2 := NB584_600.out
               have hns217_3 := NB585_600.out
               have hns217_4 := NB599_600.out
               have hms217_0 := NB600_549.out
               have hms217_1 := NB600_550.out
               have hms217_2 := NB600_584.out
               have hms217_3 := NB600_585.out
               have hms217_4 := NB600_599.out
               have hs218 : w209.cell? ⟨gb600, 3, none⟩ = some (.slice none 0 0) := (blk_cell BK600.out 3).trans rfl
               have hfs218 := blk_frozen BK600.out 3
               have hns218_0 := NB549_600.out
               have hns218_1 := NB550_600.out
               have hns218_2 := NB584_600.out
               have hns218_3 := NB585_600.out
               have hns218_4 := NB599_600.out
               have hms218_0 := NB600_549.out
               have hms218_1 := NB600_550.out
               have hms218_2 := NB600_584.out
               have hms218_3 := NB600_585.out
               have hms218_4 := NB600_599.out
               have hs219 : w209.cell? ⟨gb600, 4, none⟩ = some (.slice none 0 0) := (blk_cell BK600.out 4).trans rfl
               have hfs219 := blk_frozen BK600.out 4
               have hns219_0 := NB549_600.out
               have hns219_1 := NB550_600.out
               have hns219_2 := NB584_600.out
               have hns219_3 := NB585_600.out
               have hns219_4 := NB599_600.out
               have hms219_0 := NB600_549.out
               have hms219_1 := NB600_550.out
               have hms219_2 := NB600_584.out
               have hms219_3 := NB600_585.out
               have hms219_4 := NB600_599.out
               refine skip_ (w1 := ?_) (by rfl) rfl ?_ ?_
               rotate_left
               ·go_simp
                rfl
               refine hK.out _ _ ⟨((cell_far (p := ⟨gb600, _, none⟩) NB584_600.out _).trans (((cell_far (p := ⟨gb600, _, none⟩) NB584_600.out _).trans (((cell_far (p := ⟨gb600, _, none⟩) NB584_600.out _).trans (((cell_far (p := ⟨gb600, _, none⟩) NB584_600.out _).trans (((cell_far (p := ⟨gb600, _, none⟩) NB584_600.out _).trans (hHeld.1)))))))))), ((cell_far (p := ⟨gb600, _, none⟩) NB584_600.out _).trans (((cell_far (p := ⟨gb600, _, none⟩) NB584_600.out _).trans (((cell_far (p := ⟨gb600, _, none⟩) NB584_600.out _).trans (((cell_far (p := ⟨gb600, _, none⟩) NB584_600.out _).trans (((cell_far (p := ⟨gb600, _, none⟩) NB584_600.out _).trans (hHeld.2.1)))))))))), ((cell_far (p := ⟨gb600, _, none⟩) NB584_600.out _).trans (((cell_far (p := ⟨gb600, _, none⟩) NB584_600.out _).trans (((cell_far (p := ⟨gb600, _, none⟩) NB584_600.out _).trans (((cell_far (p := ⟨gb600, _, none⟩) NB584_600.out _).trans (((cell_far (p := ⟨gb600, _, none⟩) NB584_600.out _).trans (hHeld.2.2.1)))))))))), ((cell_far (p := ⟨gb600, _, none⟩) NB584_600.out _).trans (((cell_far (p := ⟨gb600, _, none⟩) NB584_600.out _).trans (((cell_far (p := ⟨gb600, _, none⟩) NB584_600.out _).trans (((cell_far (p := ⟨gb600, _, none⟩) NB584_600.out _).trans (((cell_far (p := ⟨gb600, _, none⟩) NB584_600.out _).trans (hHeld.2.2.2.1)))))))))), ((cell_far (p := ⟨gb600, _, none⟩) NB584_600.out _).trans (((cell_far (p := ⟨gb600, _, none⟩) NB584_600.out _).trans (((cell_far (p := ⟨gb600, _, none⟩) NB584_600.out _).trans (((cell_far (p := ⟨gb600, _, none⟩) NB584_600.out _).trans (((cell_far (p := ⟨gb600, _, none⟩) NB584_600.out _).trans (hHeld.2.2.2.2.1)))))))))), ((cell_far (p := ⟨gb600, _, none⟩) NB585_600.out _).trans (((cell_far (p := ⟨gb600, _, none⟩) NB585_600.out _).trans (((cell_far (p := ⟨gb600, _, none⟩) NB585_600.out _).trans (((cell_far (p := ⟨gb600, _, none⟩) NB585_600.out _).trans (((cell_far (p := ⟨gb600, _, none⟩) NB585_600.out _).trans (hHeld.2.2.2.2.2.1)))))))))), ((cell_far (p := ⟨gb600, _, none⟩) NB585_600.out _).trans (((cell_far (p := ⟨gb600, _, none⟩) NB585_600.out _).trans (((cell_far (p := ⟨gb600, _, none⟩) NB585_600.out _).trans (((cell_far (p := ⟨gb600, _, none⟩) NB585_600.out _).trans (((cell_far (p := ⟨gb600, _, none⟩) NB585_600.out _).trans (hHeld.2.2.2.2.2.2.1)))))))))), ((cell_far (p := ⟨gb600, _, none⟩) NB585_600.out _).trans (((cell_far (p := ⟨gb600, _, none⟩) NB585_600.out _).trans (((cell_far (p := ⟨gb600, _, none⟩) NB585_600.out _).trans (((cell_far (p := ⟨gb600, _, none⟩) NB585_600.out _).trans (((cell_far (p := ⟨gb600, _, none⟩) NB585_600.out _).trans (hHeld.2.2.2.2.2.2.2.1)))))))))), ((cell_far (p := ⟨gb600, _, none⟩) NB585_600.out _).trans (((cell_far (p := ⟨gb600, _, none⟩) NB585_600.out _).trans (((cell_far (p := ⟨gb600, _, none⟩) NB585_600.out _).trans (((cell_far (p := ⟨gb600, _, none⟩) NB585_600.out _).trans (((cell_far (p := ⟨gb600, _, none⟩) NB585_600.out _).trans (hHeld.2.2.2.2.2.2.2.2.1)))))))))), ((cell_far (p := ⟨gb600, _, none⟩) NB585_600.out _).trans (((cell_far (p := ⟨gb600, _, none⟩) NB585_600.out _).trans (((cell_far (p := ⟨gb600, _, none⟩) NB585_600.out _).trans (((cell_far (p := ⟨gb600, _, none⟩) NB585_600.out _).trans (((cell_far (p := ⟨gb600, _, none⟩) NB585_600.out _).trans (hHeld.2.2.2.2.2.2.2.2.2))))))))))⟩ (fun hHeld => ?_)
               clear hK K
               refine done_ (by kernel_rfl) ?_
               have hnb220 := NB599_549.out
               have hnc220 := NB549_599.out
               have hnb221 := NB599_550.out
               have hnc221 := NB550_599.out
               have hnb222 := NB599_584.out
               have hnc222 := NB584_599.out
               have hnb223 := NB599_585.out
               have hnc223 := NB585_599.out
               have hnb224 := NB599_600.out
               have hnc224 := NB600_599.out
               obtain ⟨hcz225_0, hcz225_1, hcz225_2, hcz225_3, hcz225_4, hfz225_0, hfz225_1, hfz225_2, hfz225_3, hfz225_4⟩ := c5_ BK599.out
               try go_wp2_with (first | ((with_reducible refine gate_callee (f := 13) rfl ?_); refine goesL_ (some 136) rfl rfl Try.func13 (by kernel_rfl) rfl #[.agg #[.int .i64 t565, .int .i64 t566, .int .i64 t567, .slice Ao54 t568.length co54, .slice Ao55 t571.length co55], .agg #[.int .i64 0, .int .i64 0, .int .i64 0, .slice none 0 0, .slice none 0 0]] rfl ga_ ?_; (refine (paymasterref14_Same.calls kj42 t565 t566 t567 _ _ t568 _ _ t571 0 0 0 _ _ ([] : List Int) _ _ ([] : List Int) true _ ?side1 ?side2 ?side3 ?side4 ?side5 ?side6 ?side7 ?side8 A200.out).mono ?_); (case side1 => refine (Kd.R_reads' (e := 3) (base := w.heap.size) (ok := fun k_ => (some k_ ≠ (.slice Ao55 t571.length co55 : Value).ownBlock ∧ (some k_ ≠ (.slice Ao59 t577.length co59 : Value).ownBlock ∧ some k_ ≠ (.slice Ao60 t580.length co60 : Value).ownBlock))) (n := t568.length) (c := co54) ?_).2.2; exact (rs_ (ty_ (ty_ HO_585003.out BK599.out) BK600.out))); (case side2 => exact (Kd.R_reads' HO_585003.out).2.1); (case side3 => refine (Kd.R_reads' (e := 3) (base := w.heap.size) (ok := fun k_ => (some k_ ≠ (.slice Ao54 t568.length co54 : Value).ownBlock ∧ (some k_ ≠ (.slice Ao59 t577.length co59 : Value).ownBlock ∧ some k_ ≠ (.slice Ao60 t580.length co60 : Value).ownBlock))) (n := t571.length) (c := co55) ?_).2.2; exact (rs_ (ty_ (ty_ HO_585004.out BK599.out) BK600.out))); (case side4 => exact (Kd.R_reads' HO_585004.out).2.1); (case side5 => exact Kd.C_nil _ _); (case side6 => exact Nat.le_refl _); (case side7 => exact Kd.C_nil _ _); (case side8 => exact Nat.le_refl _); rintro e w226 ⟨rfl, hb⟩; refine ⟨_, rfl, ?_⟩; replace HO_585003 := rb2_ (ty_ (ty_ HO_585003.out BK599.out) BK600.out) hb; replace HO_585004 := rb2_ (ty_ (ty_ HO_585004.out BK599.out) BK600.out) hb; replace HO_586003 := rb2_ (ty_ (ty_ HO_586003.out BK599.out) BK600.out) hb; replace HO_586004 := rb2_ (ty_ (ty_ HO_586004.out BK599.out) BK600.out) hb; replace BK549 := bb_ BK549.out hb; replace BK550 := bb_ BK550.out hb; replace BK584 := bb_ BK584.out hb; replace BK585 := bb_ BK585.out hb; replace BK599 := Aside0.mk (blk_below (g := gb599) (o := .cells #[.int .i64 t565, .int .i64 t566, .int .i64 t567, .slice Ao54 t568.length co54, .slice Ao55 t571.length co55] 35 (0, 0)) (bp_ BK599.out) hb); replace BK600 := Aside0.mk (blk_below (g := gb600) (o := .cells #[.int .i64 t574, .int .i64 t575, .int .i64 t576, .slice Ao59 t577.length co59, .slice Ao60 t580.length co60] 35 (0, 0)) (bp_ BK600.out) hb); replace HB := hs_ hb; (try clear hb); (try clear hb2); (try clear hk); (try clear hi); have hnb227 := NB600_549.out; have hnc227 := NB549_600.out; have hnb228 := NB600_550.out; have hnc228 := NB550_600.out; have hnb229 := NB600_584.out; have hnc229 := NB584_600.out; have hnb230 := NB600_585.out; have hnc230 := NB585_600.out; obtain ⟨hcz231_0, hcz231_1, hcz231_2, hcz231_3, hcz231_4, hfz231_0, hfz231_1, hfz231_2, hfz231_3, hfz231_4⟩ := c5_ BK600.out) | (go_at_call 13; (refine (paymasterref14_Same.calls kj42 t574 t575 t576 _ _ t577 _ _ t580 0 0 0 _ _ ([] : List Int) _ _ ([] : List Int) true _ ?side1 ?side2 ?side3 ?side4 ?side5 ?side6 ?side7 ?side8 A202.out).mono ?_); (case side1 => exact kc_ (Kd.R_reads' HO_586003.out).2.2); (case side2 => exact (Kd.R_reads' HO_586003.out).2.1); (case side3 => exact kc_ (Kd.R_reads' HO_586004.out).2.2); (case side4 => exact (Kd.R_reads' HO_586004.out).2.1); (case side5 => exact Kd.C_nil _ _); (case side6 => exact Nat.le_refl _); (case side7 => exact Kd.C_nil _ _); (case side8 => exact Nat.le_refl _); rintro e w232 ⟨rfl, hb⟩; replace HO_585003 := rl_ HO_585003.out hb; replace HO_585004 := rl_ HO_585004.out hb; replace HO_586003 := rl_ HO_586003.out hb; replace HO_586004 := rl_ HO_586004.out hb; replace BK549 := bb_ BK549.out hb; replace BK550 := bb_ BK550.out hb; replace BK584 := bb_ BK584.out hb; replace BK585 := bb_ BK585.out hb; replace BK599 := bb_ BK599.out hb; replace BK600 := bb_ BK600.out hb; replace HB := hs_ hb; (try clear hb); (try clear hb2); (try clear hk); (try clear hi)) | (go_at_call 10; (with_reducible refine (paymasterlaw14_awake.calls kj42  t603 _ A205.out).mono ?_); rintro e w233 ⟨rfl, hb⟩; replace HO_585003 := rl_ HO_585003.out hb; replace HO_585004 := rl_ HO_585004.out hb; replace HO_586003 := rl_ HO_586003.out hb; replace HO_586004 := rl_ HO_586004.out hb; replace BK549 := bb_ BK549.out hb; replace BK550 := bb_ BK550.out hb; replace BK584 := bb_ BK584.out hb; replace BK585 := bb_ BK585.out hb; replace BK599 := bb_ BK599.out hb; replace BK600 := bb_ BK600.out hb; replace HB := hs_ hb; (try clear hb); (try clear hb2); (try clear hk); (try clear hi)))
               go_ret
               exact ⟨se_, bl_⟩
              ·rw [if_neg c204] at H
               exact absurd H (by simp)
             ·replace c203 := Bool.eq_false_iff.mpr c203
              subst c203
              rw [if_neg (show ¬ (false = true) by decide)] at H
              exact absurd H (by simp)
            ·replace c201 := Bool.eq_false_iff.mpr c201
             subst c201
             rw [if_neg (show ¬ (false = true) by decide)] at H
             exact absurd H (by simp)
     ·rw [if_neg c26] at H
      exact absurd H (by simp)
    ·rw [if_neg c25] at H
     exact absurd H (by simp)

end Go.Proofs.Ytocaneaofdbpoaa.PA
