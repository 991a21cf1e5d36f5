/- Contracts of the functions of the given program: written by wip/pmprint.py, a program of this session, which runs the print of the kit over altered functions. -/
import Derived.Test.YtocaneaofdbpoaaPAx0
import Derived.Test.YtocaneaofdbpoaaPAx1
import Derived.Test.YtocaneaofdbpoaaPAx2
import Derived.Test.YtocaneaofdbpoaaPAx5
import Derived.Test.YtocaneaofdbpoaaPAx6
namespace Go.Proofs.Ytocaneaofdbpoaa.PA
open Go.RowKit Go.Proofs.YtocaneaofdbpoaaW.PrintWords Go.Proofs.YtocaneaofdbpoaaW.PrintLast Go.Proofs.YtocaneaofdbpoaaW.PrintMore
attribute [local go_sem] max2_int min2_int max_two min_two max_three min_three max_four min_four   -- for this text's walks alone
set_option linter.unusedVariables false
set_option linter.unusedSimpArgs false

/-! ### withhold_Step: function 11 -/
def withhold_Step.j0 : Nat → Int → Int → Bool → Int → Int → Int → List Int → List Int → Int → Int → Int → List Int → List Int → Option (Int × Int × Int × List Int × List Int × Int × Int × Int × List Int × List Int × Int)
  | 0, _, _, _, _, _, _, _, _, _, _, _, _, _ => none
  | k + 1, x2, x3, x49, x203000, x203001, x203002, x203003, x203004, x221000, x221001, x221002, x221003, x221004 => if x49 = true then (some (0, 0, 0, ([] : List Int), ([] : List Int), 0, 0, 0, ([] : List Int), ([] : List Int), 1)) else ((withhold_less.f k x221003 x203003).bind fun t221 => ((withhold_less.f k x221004 x203004).bind fun t224 => (some (x221000, x221001, x221002, x221003, x221004, x2, x3, wrap64 (x221002 - x203002), t221, t224, 0))))
def withhold_Step.f (k : Nat) (l0_0 : List (S58)) (l0_1 : List (S41)) (a1_0 : Int) (a1_1 : Int) (a1_2 : Int) (l1_3 : List Int) (l1_4 : List Int) (a2 : Int) (a3 : Int) : Option (Int × Int × Int × List Int × List Int × Int × Int × Int × List Int × List Int × Int) := (withhold_Right.f k l0_0 l0_1).bind fun t205 => (if t205 = true then ((withhold_far.f k (([a1_0, a2, a1_1, a3] : List Int))).bind fun t209 => (if t209 = true then (some (0, 0, 0, ([] : List Int), ([] : List Int), 0, 0, 0, ([] : List Int), ([] : List Int), 3)) else ((withhold_Due.f k l0_0 l0_1 (wrap64 (a1_0 + a2)) (wrap64 (a1_1 + a3))).bind fun bt210 => (if bt210.2.2.2.2.2 = 0 then (if (l1_3.length : Int) = 0 then (if (l1_4.length : Int) = 0 then (withhold_Step.j0 k a2 a3 false a1_0 a1_1 a1_2 l1_3 l1_4 bt210.1 bt210.2.1 bt210.2.2.1 bt210.2.2.2.1 bt210.2.2.2.2.1) else (withhold_Step.j0 k a2 a3 ((l1_4.length : Int) != (l0_1.length : Int)) a1_0 a1_1 a1_2 l1_3 l1_4 bt210.1 bt210.2.1 bt210.2.2.1 bt210.2.2.2.1 bt210.2.2.2.2.1)) else (if (l1_3.length : Int) = (l0_1.length : Int) then (if (l1_4.length : Int) = 0 then (withhold_Step.j0 k a2 a3 false a1_0 a1_1 a1_2 l1_3 l1_4 bt210.1 bt210.2.1 bt210.2.2.1 bt210.2.2.2.1 bt210.2.2.2.2.1) else (withhold_Step.j0 k a2 a3 ((l1_4.length : Int) != (l0_1.length : Int)) a1_0 a1_1 a1_2 l1_3 l1_4 bt210.1 bt210.2.1 bt210.2.2.1 bt210.2.2.2.1 bt210.2.2.2.2.1)) else (withhold_Step.j0 k a2 a3 true a1_0 a1_1 a1_2 l1_3 l1_4 bt210.1 bt210.2.1 bt210.2.2.1 bt210.2.2.2.1 bt210.2.2.2.2.1))) else (some (0, 0, 0, ([] : List Int), ([] : List Int), 0, 0, 0, ([] : List Int), ([] : List Int), bt210.2.2.2.2.2)))))) else (some (0, 0, 0, ([] : List Int), ([] : List Int), 0, 0, 0, ([] : List Int), ([] : List Int), 1)))
def withhold_Step.T10 : Bool × List (List Nat × List Nat) := (true, [([], []), ([], []), ([], []), ([], []), ([3], [3]), ([], []), ([5], [5]), ([4, 6], [4, 6]), ([], []), ([8], [8]), ([], []), ([10], [10]), ([9, 11], [9, 11]), ([], []), ([13], [13]), ([], []), ([15], [15]), ([14, 16, 12], [14, 16]), ([1, 2, 7, 12, 17], [1, 2, 7, 12, 17]), ([0, 17, 0], [0]), ([18, 19, 0, 1, 2, 3, 4, 5, 6, 7, 8, 9, 10, 11, 12, 13, 14, 15, 16, 17, 18, 19], [18]), ([20, 0, 1, 2, 3, 4, 5, 6, 7, 8, 9, 10, 11, 12, 13, 14, 15, 16, 17, 18, 19, 20], [])])
def withhold_Step.B10 : List Nat := [0, 0, 0, 0, 8, 0, 32, 120, 0, 256, 0, 1024, 3840, 0, 8192, 0, 32768, 130816, 262142, 261889, 1048575, 2097151]
theorem withhold_Step.tab10 : rtab .any (opsOf Try.f11 10) = withhold_Step.T10 := by kernel_rfl
theorem withhold_Step.bits10 : waitsOk withhold_Step.T10.2 withhold_Step.B10 = true := by kernel_rfl
set_option maxHeartbeats 8000000 in
set_option maxRecDepth 100000 in
theorem withhold_Step.calls (k : Nat) (A0_0 : Option Addr) (c0_0 : Nat) (l0_0 : List (S58)) (A0_1 : Option Addr) (c0_1 : Nat) (l0_1 : List (S41)) (a1_0 : Int) (a1_1 : Int) (a1_2 : Int) (A1_3 : Option Addr) (c1_3 : Nat) (l1_3 : List Int) (A1_4 : Option Addr) (c1_4 : Nat) (l1_4 : List Int) (a2 : Int) (a3 : Int) (r1 : Int) (r2 : Int) (r3 : Int) (r4 : List Int) (r5 : List Int) (r6 : Int) (r7 : Int) (r8 : Int) (r9 : List Int) (r10 : List Int) (r11 : Int) (w : World) (hr0_0 : Kd.C k58 w A0_0 l0_0.length l0_0) (hc0_0 : l0_0.length ≤ c0_0) (hr0_1 : Kd.C k41 w A0_1 l0_1.length l0_1) (hc0_1 : l0_1.length ≤ c0_1) (hr1_3 : Kd.C (Kd.int .i64) w A1_3 l1_3.length l1_3) (hc1_3 : l1_3.length ≤ c1_3) (hr1_4 : Kd.C (Kd.int .i64) w A1_4 l1_4.length l1_4) (hc1_4 : l1_4.length ≤ c1_4) (h : withhold_Step.f k l0_0 l0_1 a1_0 a1_1 a1_2 l1_3 l1_4 a2 a3 = some (r1, r2, r3, r4, r5, r6, r7, r8, r9, r10, r11)) :
    Calls Try.prog 11 #[.agg #[.slice A0_0 l0_0.length c0_0, .slice A0_1 l0_1.length c0_1], .agg #[.int .i64 a1_0, .int .i64 a1_1, .int .i64 a1_2, .slice A1_3 l1_3.length c1_3, .slice A1_4 l1_4.length c1_4], .int .i64 a2, .int .i64 a3] w fun e w' => ∃ v3_ v4_ v8_ v9_ : Value, e = .returned (.tuple #[.agg #[.int .i64 r1, .int .i64 r2, .int .i64 r3, v3_, v4_], .agg #[.int .i64 r6, .int .i64 r7, .int .i64 r8, v8_, v9_], .int .i64 r11]) ∧ Kd.R (Kd.int .i64) 3 w' w.heap.size (fun k_ => some k_ ≠ (v4_ : Value).ownBlock ∧ some k_ ≠ (v8_ : Value).ownBlock ∧ some k_ ≠ (v9_ : Value).ownBlock) v3_ r4 ∧ Kd.R (Kd.int .i64) 3 w' w.heap.size (fun k_ => some k_ ≠ (v3_ : Value).ownBlock ∧ some k_ ≠ (v8_ : Value).ownBlock ∧ some k_ ≠ (v9_ : Value).ownBlock) v4_ r5 ∧ Kd.R (Kd.int .i64) 3 w' w.heap.size (fun k_ => some k_ ≠ (v3_ : Value).ownBlock ∧ some k_ ≠ (v4_ : Value).ownBlock ∧ some k_ ≠ (v9_ : Value).ownBlock) v8_ r9 ∧ Kd.R (Kd.int .i64) 3 w' w.heap.size (fun k_ => some k_ ≠ (v3_ : Value).ownBlock ∧ some k_ ≠ (v4_ : Value).ownBlock ∧ some k_ ≠ (v8_ : Value).ownBlock) v9_ r10 ∧ Below w.heap.size w w' := by
 have hu25 := Try.underlying25
 have hu30 := Try.underlying30
 have HR0_0 := Aside0.mk hr0_0
 have HC0_0 := Aside0.mk hc0_0
 clear hr0_0 hc0_0
 have HR0_1 := Aside0.mk hr0_1
 have HC0_1 := Aside0.mk hc0_1
 clear hr0_1 hc0_1
 have HR1_3 := Aside0.mk hr1_3
 have HC1_3 := Aside0.mk hc1_3
 clear hr1_3 hc1_3
 have HR1_4 := Aside0.mk hr1_4
 have HC1_4 := Aside0.mk hc1_4
 clear hr1_4 hc1_4
 have HB := Aside0.mk (Below.refl w.heap.size w)
 have H : ((withhold_Right.f k l0_0 l0_1).bind fun t205 => (if t205 = true then ((withhold_far.f k (([a1_0, a2, a1_1, a3] : List Int))).bind fun t209 => (if t209 = true then (some (0, 0, 0, ([] : List Int), ([] : List Int), 0, 0, 0, ([] : List Int), ([] : List Int), 3)) else ((withhold_Due.f k l0_0 l0_1 (wrap64 (a1_0 + a2)) (wrap64 (a1_1 + a3))).bind fun bt210 => (if bt210.2.2.2.2.2 = 0 then (if (l1_3.length : Int) = 0 then (if (l1_4.length : Int) = 0 then (withhold_Step.j0 k a2 a3 false a1_0 a1_1 a1_2 l1_3 l1_4 bt210.1 bt210.2.1 bt210.2.2.1 bt210.2.2.2.1 bt210.2.2.2.2.1) else (withhold_Step.j0 k a2 a3 ((l1_4.length : Int) != (l0_1.length : Int)) a1_0 a1_1 a1_2 l1_3 l1_4 bt210.1 bt210.2.1 bt210.2.2.1 bt210.2.2.2.1 bt210.2.2.2.2.1)) else (if (l1_3.length : Int) = (l0_1.length : Int) then (if (l1_4.length : Int) = 0 then (withhold_Step.j0 k a2 a3 false a1_0 a1_1 a1_2 l1_3 l1_4 bt210.1 bt210.2.1 bt210.2.2.1 bt210.2.2.2.1 bt210.2.2.2.2.1) else (withhold_Step.j0 k a2 a3 ((l1_4.length : Int) != (l0_1.length : Int)) a1_0 a1_1 a1_2 l1_3 l1_4 bt210.1 bt210.2.1 bt210.2.2.1 bt210.2.2.2.1 bt210.2.2.2.2.1)) else (withhold_Step.j0 k a2 a3 true a1_0 a1_1 a1_2 l1_3 l1_4 bt210.1 bt210.2.1 bt210.2.2.1 bt210.2.2.2.1 bt210.2.2.2.2.1))) else (some (0, 0, 0, ([] : List Int), ([] : List Int), 0, 0, 0, ([] : List Int), ([] : List Int), bt210.2.2.2.2.2)))))) else (some (0, 0, 0, ([] : List Int), ([] : List Int), 0, 0, 0, ([] : List Int), ([] : List Int), 1)))) = some (r1, r2, r3, r4, r5, r6, r7, r8, r9, r10, r11) := h
 clear h
 replace H := Option.bind_eq_some_iff.mp H
 obtain ⟨t205, A50, H⟩ := H
 (try dsimp only at H)
 have A5 := Aside0.mk A50
 clear A50
 by_cases c6 : t205 = true
 ·subst c6
  rw [if_pos rfl] at H
  obtain ⟨y206, hy206⟩ : ∃ y_ : List Int, y_ = (([a1_0, a2, a1_1, a3] : List Int)) := ⟨_, rfl⟩
  replace H : ((withhold_far.f k y206).bind fun t209 => (if t209 = true then (some (0, 0, 0, ([] : List Int), ([] : List Int), 0, 0, 0, ([] : List Int), ([] : List Int), 3)) else ((withhold_Due.f k l0_0 l0_1 (wrap64 (a1_0 + a2)) (wrap64 (a1_1 + a3))).bind fun bt210 => (if bt210.2.2.2.2.2 = 0 then (if (l1_3.length : Int) = 0 then (if (l1_4.length : Int) = 0 then (withhold_Step.j0 k a2 a3 false a1_0 a1_1 a1_2 l1_3 l1_4 bt210.1 bt210.2.1 bt210.2.2.1 bt210.2.2.2.1 bt210.2.2.2.2.1) else (withhold_Step.j0 k a2 a3 ((l1_4.length : Int) != (l0_1.length : Int)) a1_0 a1_1 a1_2 l1_3 l1_4 bt210.1 bt210.2.1 bt210.2.2.1 bt210.2.2.2.1 bt210.2.2.2.2.1)) else (if (l1_3.length : Int) = (l0_1.length : Int) then (if (l1_4.length : Int) = 0 then (withhold_Step.j0 k a2 a3 false a1_0 a1_1 a1_2 l1_3 l1_4 bt210.1 bt210.2.1 bt210.2.2.1 bt210.2.2.2.1 bt210.2.2.2.2.1) else (withhold_Step.j0 k a2 a3 ((l1_4.length : Int) != (l0_1.length : Int)) a1_0 a1_1 a1_2 l1_3 l1_4 bt210.1 bt210.2.1 bt210.2.2.1 bt210.2.2.2.1 bt210.2.2.2.2.1)) else (withhold_Step.j0 k a2 a3 true a1_0 a1_1 a1_2 l1_3 l1_4 bt210.1 bt210.2.1 bt210.2.2.1 bt210.2.2.2.1 bt210.2.2.2.2.1))) else (some (0, 0, 0, ([] : List Int), ([] : List Int), 0, 0, 0, ([] : List Int), ([] : List Int), bt210.2.2.2.2.2)))))) = some (r1, r2, r3, r4, r5, r6, r7, r8, r9, r10, r11) := by first | (rw [hy206]; with_reducible exact H) | (have H2_ := (Option.bind_some _ _).symm.trans H; rw [hy206]; with_reducible exact H2_) | (have H2_ := (Option.bind_some _ _).symm.trans H; with_reducible exact H2_) | with_reducible exact H | (rw [hy206]; exact H) | exact H
  have Ny206 := Aside0.mk hy206
  clear hy206
  replace H := Option.bind_eq_some_iff.mp H
  obtain ⟨t209, A70, H⟩ := H
  (try dsimp only at H)
  have A7 := Aside0.mk A70
  clear A70
  by_cases c8 : t209 = true
  ·subst c8
   rw [if_pos rfl] at H
   simp only [Option.some.injEq, Prod.mk.injEq] at H
   obtain ⟨rfl, rfl, rfl, rfl, rfl, rfl, rfl, rfl, rfl, rfl, rfl⟩ := H
   go_enter Try.func11, Try.ntmps11
   go_wp2_with (first | ((with_reducible refine gate_dst (N := 4) rfl ?_); (try (refine gate_guard (by rfl) ?_; dsimp only)); refine bx_ 4 #[.slice A0_0 l0_0.length c0_0, .slice A0_1 l0_1.length c0_1] 25 ?_; intro gb201 hg w9 hbox hb; have BK201 := Aside0.mk hbox; have GW201 := gs_ hg; have GE201 := gs_ hg; replace HB := hs_ hb; clear hb hbox hg) | ((with_reducible refine gate_dst (N := 5) rfl ?_); (try (refine gate_guard (by rfl) ?_; dsimp only)); refine bx_ 5 #[.int .i64 a1_0, .int .i64 a1_1, .int .i64 a1_2, .slice A1_3 l1_3.length c1_3, .slice A1_4 l1_4.length c1_4] 30 ?_; intro gb202 hg w10 hbox hb; have BK202 := Aside0.mk hbox; have GW202 := gs_ hg; have GE202 := gs_ hg; have NB201_202 := nl_ hg BK201.out; have NB202_201 := ng_ hg BK201.out; replace BK201 := bb_ BK201.out hb; replace HB := hs_ hb; clear hb hbox hg) | ((with_reducible refine gate_dst (N := 8) rfl ?_); (try (refine gate_guard (by rfl) ?_; dsimp only)); refine bx_ 8 #[.int .i64 0, .int .i64 0, .int .i64 0, .slice none 0 0, .slice none 0 0] 30 ?_; intro gb203 hg w11 hbox hb; have BK203 := Aside0.mk hbox; have GW203 := gs_ hg; have GE203 := gs_ hg; have NB201_203 := nl_ hg BK201.out; have NB203_201 := ng_ hg BK201.out; have NB202_203 := nl_ hg BK202.out; have NB203_202 := ng_ hg BK202.out; replace BK201 := bb_ BK201.out hb; replace BK202 := bb_ BK202.out hb; replace HB := hs_ hb; clear hb hbox hg) | ((with_reducible refine gate_dst (N := 9) rfl ?_); (try (refine gate_guard (by rfl) ?_; dsimp only)); refine bx_ 9 #[.int .i64 0, .int .i64 0, .int .i64 0, .slice none 0 0, .slice none 0 0] 30 ?_; intro gb204 hg w12 hbox hb; have BK204 := Aside0.mk hbox; have GW204 := gs_ hg; have GE204 := gs_ hg; have NB201_204 := nl_ hg BK201.out; have NB204_201 := ng_ hg BK201.out; have NB202_204 := nl_ hg BK202.out; have NB204_202 := ng_ hg BK202.out; have NB203_204 := nl_ hg BK203.out; have NB204_203 := ng_ hg BK203.out; replace BK201 := bb_ BK201.out hb; replace BK202 := bb_ BK202.out hb; replace BK203 := bb_ BK203.out hb; replace HB := hs_ hb; clear hb hbox hg; have hnb13 := NB201_202.out; have hnc13 := NB202_201.out; have hnb14 := NB201_203.out; have hnc14 := NB203_201.out; have hnb15 := NB201_204.out; have hnc15 := NB204_201.out; obtain ⟨hcz16_0, hcz16_1, hfz16_0, hfz16_1⟩ := c2_ BK201.out) | ((with_reducible refine gate_callee (f := 12) rfl ?_); refine goesL_ (some 15) rfl rfl Try.func12 (by kernel_rfl) rfl #[.agg #[.slice A0_0 l0_0.length c0_0, .slice A0_1 l0_1.length c0_1]] rfl ga_ ?_; (with_reducible refine (withhold_Right.calls k _ _ l0_0 _ _ l0_1 true _ ?side1 ?side2 ?side3 ?side4 A5.out).mono ?_); (case side1 => exact kc_ (Kd.C_below HR0_0.out HB.out)); (case side2 => exact HC0_0.out); (case side3 => exact kc_ (Kd.C_below HR0_1.out HB.out)); (case side4 => exact HC0_1.out); rintro e w17 ⟨rfl, hb⟩; refine ⟨_, rfl, ?_⟩; replace BK201 := bb_ BK201.out hb; replace BK202 := bb_ BK202.out hb; replace BK203 := bb_ BK203.out hb; replace BK204 := bb_ BK204.out hb; replace HB := hs_ hb; (try clear hb); (try clear hb2); (try clear hk); (try clear hi); have hnb18 := NB202_203.out; have hnc18 := NB203_202.out; have hnb19 := NB202_204.out; have hnc19 := NB204_202.out; obtain ⟨hcz20_0, hcz20_1, hcz20_2, hcz20_3, hcz20_4, hfz20_0, hfz20_1, hfz20_2, hfz20_3, hfz20_4⟩ := c5_ BK202.out) | ((with_reducible refine gate_dst (N := 26) rfl ?_); (try (refine gate_guard (by rfl) ?_; dsimp only)); refine Kd.R_lit (Kd.int .i64) _ 3 ?hg (N := 26) ?hd (xs := ([a1_0, a2, a1_1, a3] : List Int)) (inner := [.int .i64 a1_0, .int .i64 a2, .int .i64 a1_1, .int .i64 a3]) (ok := fun _ => True) (okp := fun _ => True) ?hr ?hp (fun _ hk => hk) trivial (Below.refl _ _) (Nat.le_refl _) (by simp) ?_; (case hd => rfl); (case hg => rfl); (case hr => first | (go_simp; done) | (go_simp; rfl)); (case hp => exact (Reps.one (show Kd.M (Kd.int .i64) _ _ _ a1_0 [.int .i64 a1_0] from rfl) (Reps.one (show Kd.M (Kd.int .i64) _ _ _ a2 [.int .i64 a2] from rfl) (Reps.one (show Kd.M (Kd.int .i64) _ _ _ a1_1 [.int .i64 a1_1] from rfl) (Reps.one (show Kd.M (Kd.int .i64) _ _ _ a3 [.int .i64 a3] from rfl) (Reps.none _ _)))))); intro v207 w21 ho22 hb hg_ hnew_; clear hg_ hnew_; (first | rw [← Ny206.out] at ho22 | (simp only [Int.reduceToNat] at ho22; rw [← Ny206.out] at ho22)); have HO208 := rl0_ ho22; replace BK201 := bb_ BK201.out hb; replace BK202 := bb_ BK202.out hb; replace BK203 := bb_ BK203.out hb; replace BK204 := bb_ BK204.out hb; replace HB := hs_ hb; clear hb ho22; obtain ⟨Ao23, co23, eo23⟩ := Kd.R_slice HO208.out; subst eo23) | ((with_reducible refine gate_callee (f := 20) rfl ?_); refine goesL_ (some 27) rfl rfl Try.func20 (by kernel_rfl) rfl #[.slice Ao23 y206.length co23] rfl ga_ ?_; (with_reducible refine (withhold_far.calls k _ _ y206 true _ ?side1 ?side2 A7.out).mono ?_); (case side1 => exact kc_ (Kd.R_reads' HO208.out).2.2); (case side2 => exact (Kd.R_reads' HO208.out).2.1); rintro e w' ⟨rfl, ⟨nd, rfl⟩⟩; refine ⟨_, rfl, ?_⟩; (try (rw [drewN_self w21]; generalize hq_ : World.drewN w21 _ = w21; replace HO208 := rk_ hq_ HO208.out; replace BK201 := rb_ hq_ BK201.out; replace BK202 := rb_ hq_ BK202.out; replace BK203 := rb_ hq_ BK203.out; replace BK204 := rb_ hq_ BK204.out; replace HB := rh_ hq_; clear hq_)); have hnb24 := NB203_204.out; have hnc24 := NB204_203.out; obtain ⟨hcz25_0, hcz25_1, hcz25_2, hcz25_3, hcz25_4, hfz25_0, hfz25_1, hfz25_2, hfz25_3, hfz25_4⟩ := c5_ BK203.out; obtain ⟨hcz26_0, hcz26_1, hcz26_2, hcz26_3, hcz26_4, hfz26_0, hfz26_1, hfz26_2, hfz26_3, hfz26_4⟩ := c5_ BK204.out))
   refine bodyPost_ret (results_list (rs := [.cell 8 30, .cell 9 30, .tmp 10]) rfl (by simp) (.cell gb203 30 #[.int .i64 0, .int .i64 0, .int .i64 0, .slice none 0 0, .slice none 0 0] (0, 0) _ rfl (bp_ BK203.out) Try.underlying30 rfl (by kernel_rfl) (.cell gb204 30 #[.int .i64 0, .int .i64 0, .int .i64 0, .slice none 0 0, .slice none 0 0] (0, 0) _ rfl (bp_ BK204.out) Try.underlying30 rfl (by kernel_rfl) (.tmp .nil)))) rfl ?_
   exact ⟨_, _, _, _, se_, kn_, kn_, kn_, kn_, bl_⟩
  ·replace c8 := Bool.eq_false_iff.mpr c8
   subst c8
   rw [if_neg (show ¬ (false = true) by decide)] at H
   replace H := Option.bind_eq_some_iff.mp H
   obtain ⟨⟨t210, t211, t212, t213, t216, t219⟩, A270, H⟩ := H
   (try dsimp only at H)
   have A27 := Aside0.mk A270
   clear A270
   by_cases c28 : t219 = 0
   ·rw [if_pos c28] at H
    have c28b0 : (t219 == 0) = true := beq_iff_eq.mpr c28
    have c28b1 : (t219 != 0) = false := bne_eq_false_iff_eq.mpr c28
    clear c28
    have HC29 := Aside0.mk H
    clear H
    go_enter Try.func11, Try.ntmps11
    go_upto_region 8 with (first | ((with_reducible refine gate_dst (N := 4) rfl ?_); (try (refine gate_guard (by rfl) ?_; dsimp only)); refine bx_ 4 #[.slice A0_0 l0_0.length c0_0, .slice A0_1 l0_1.length c0_1] 25 ?_; intro gb201 hg w30 hbox hb; have BK201 := Aside0.mk hbox; have GW201 := gs_ hg; have GE201 := gs_ hg; replace HB := hs_ hb; clear hb hbox hg) | ((with_reducible refine gate_dst (N := 5) rfl ?_); (try (refine gate_guard (by rfl) ?_; dsimp only)); refine bx_ 5 #[.int .i64 a1_0, .int .i64 a1_1, .int .i64 a1_2, .slice A1_3 l1_3.length c1_3, .slice A1_4 l1_4.length c1_4] 30 ?_; intro gb202 hg w31 hbox hb; have BK202 := Aside0.mk hbox; have GW202 := gs_ hg; have GE202 := gs_ hg; have NB201_202 := nl_ hg BK201.out; have NB202_201 := ng_ hg BK201.out; replace BK201 := bb_ BK201.out hb; replace HB := hs_ hb; clear hb hbox hg) | ((with_reducible refine gate_dst (N := 8) rfl ?_); (try (refine gate_guard (by rfl) ?_; dsimp only)); refine bx_ 8 #[.int .i64 0, .int .i64 0, .int .i64 0, .slice none 0 0, .slice none 0 0] 30 ?_; intro gb203 hg w32 hbox hb; have BK203 := Aside0.mk hbox; have GW203 := gs_ hg; have GE203 := gs_ hg; have NB201_203 := nl_ hg BK201.out; have NB203_201 := ng_ hg BK201.out; have NB202_203 := nl_ hg BK202.out; have NB203_202 := ng_ hg BK202.out; replace BK201 := bb_ BK201.out hb; replace BK202 := bb_ BK202.out hb; replace HB := hs_ hb; clear hb hbox hg) | ((with_reducible refine gate_dst (N := 9) rfl ?_); (try (refine gate_guard (by rfl) ?_; dsimp only)); refine bx_ 9 #[.int .i64 0, .int .i64 0, .int .i64 0, .slice none 0 0, .slice none 0 0] 30 ?_; intro gb204 hg w33 hbox hb; have BK204 := Aside0.mk hbox; have GW204 := gs_ hg; have GE204 := gs_ hg; have NB201_204 := nl_ hg BK201.out; have NB204_201 := ng_ hg BK201.out; have NB202_204 := nl_ hg BK202.out; have NB204_202 := ng_ hg BK202.out; have NB203_204 := nl_ hg BK203.out; have NB204_203 := ng_ hg BK203.out; replace BK201 := bb_ BK201.out hb; replace BK202 := bb_ BK202.out hb; replace BK203 := bb_ BK203.out hb; replace HB := hs_ hb; clear hb hbox hg; have hnb34 := NB201_202.out; have hnc34 := NB202_201.out; have hnb35 := NB201_203.out; have hnc35 := NB203_201.out; have hnb36 := NB201_204.out; have hnc36 := NB204_201.out; obtain ⟨hcz37_0, hcz37_1, hfz37_0, hfz37_1⟩ := c2_ BK201.out) | ((with_reducible refine gate_callee (f := 12) rfl ?_); refine goesL_ (some 15) rfl rfl Try.func12 (by kernel_rfl) rfl #[.agg #[.slice A0_0 l0_0.length c0_0, .slice A0_1 l0_1.length c0_1]] rfl ga_ ?_; (with_reducible refine (withhold_Right.calls k _ _ l0_0 _ _ l0_1 true _ ?side1 ?side2 ?side3 ?side4 A5.out).mono ?_); (case side1 => exact kc_ (Kd.C_below HR0_0.out HB.out)); (case side2 => exact HC0_0.out); (case side3 => exact kc_ (Kd.C_below HR0_1.out HB.out)); (case side4 => exact HC0_1.out); rintro e w38 ⟨rfl, hb⟩; refine ⟨_, rfl, ?_⟩; replace BK201 := bb_ BK201.out hb; replace BK202 := bb_ BK202.out hb; replace BK203 := bb_ BK203.out hb; replace BK204 := bb_ BK204.out hb; replace HB := hs_ hb; (try clear hb); (try clear hb2); (try clear hk); (try clear hi); have hnb39 := NB202_203.out; have hnc39 := NB203_202.out; have hnb40 := NB202_204.out; have hnc40 := NB204_202.out; obtain ⟨hcz41_0, hcz41_1, hcz41_2, hcz41_3, hcz41_4, hfz41_0, hfz41_1, hfz41_2, hfz41_3, hfz41_4⟩ := c5_ BK202.out) | ((with_reducible refine gate_dst (N := 26) rfl ?_); (try (refine gate_guard (by rfl) ?_; dsimp only)); refine Kd.R_lit (Kd.int .i64) _ 3 ?hg (N := 26) ?hd (xs := ([a1_0, a2, a1_1, a3] : List Int)) (inner := [.int .i64 a1_0, .int .i64 a2, .int .i64 a1_1, .int .i64 a3]) (ok := fun _ => True) (okp := fun _ => True) ?hr ?hp (fun _ hk => hk) trivial (Below.refl _ _) (Nat.le_refl _) (by simp) ?_; (case hd => rfl); (case hg => rfl); (case hr => first | (go_simp; done) | (go_simp; rfl)); (case hp => exact (Reps.one (show Kd.M (Kd.int .i64) _ _ _ a1_0 [.int .i64 a1_0] from rfl) (Reps.one (show Kd.M (Kd.int .i64) _ _ _ a2 [.int .i64 a2] from rfl) (Reps.one (show Kd.M (Kd.int .i64) _ _ _ a1_1 [.int .i64 a1_1] from rfl) (Reps.one (show Kd.M (Kd.int .i64) _ _ _ a3 [.int .i64 a3] from rfl) (Reps.none _ _)))))); intro v207 w42 ho43 hb hg_ hnew_; clear hg_ hnew_; (first | rw [← Ny206.out] at ho43 | (simp only [Int.reduceToNat] at ho43; rw [← Ny206.out] at ho43)); have HO208 := rl0_ ho43; replace BK201 := bb_ BK201.out hb; replace BK202 := bb_ BK202.out hb; replace BK203 := bb_ BK203.out hb; replace BK204 := bb_ BK204.out hb; replace HB := hs_ hb; clear hb ho43; obtain ⟨Ao44, co44, eo44⟩ := Kd.R_slice HO208.out; subst eo44) | ((with_reducible refine gate_callee (f := 20) rfl ?_); refine goesL_ (some 27) rfl rfl Try.func20 (by kernel_rfl) rfl #[.slice Ao44 y206.length co44] rfl ga_ ?_; (with_reducible refine (withhold_far.calls k _ _ y206 false _ ?side1 ?side2 A7.out).mono ?_); (case side1 => exact kc_ (Kd.R_reads' HO208.out).2.2); (case side2 => exact (Kd.R_reads' HO208.out).2.1); rintro e w' ⟨rfl, ⟨nd, rfl⟩⟩; refine ⟨_, rfl, ?_⟩; (try (rw [drewN_self w42]; generalize hq_ : World.drewN w42 _ = w42; replace HO208 := rk_ hq_ HO208.out; replace BK201 := rb_ hq_ BK201.out; replace BK202 := rb_ hq_ BK202.out; replace BK203 := rb_ hq_ BK203.out; replace BK204 := rb_ hq_ BK204.out; replace HB := rh_ hq_; clear hq_)); obtain ⟨hcz45_0, hcz45_1, hfz45_0, hfz45_1⟩ := c2_ BK201.out; obtain ⟨hcz46_0, hcz46_1, hcz46_2, hcz46_3, hcz46_4, hfz46_0, hfz46_1, hfz46_2, hfz46_3, hfz46_4⟩ := c5_ BK202.out) | ((with_reducible refine gate_callee (f := 14) rfl ?_); refine goesL_ (some 40) rfl rfl Try.func14 (by kernel_rfl) rfl #[.agg #[.slice A0_0 l0_0.length c0_0, .slice A0_1 l0_1.length c0_1], .int .i64 (wrap64 (a1_0 + a2)), .int .i64 (wrap64 (a1_1 + a3))] rfl ga_ ?_; (with_reducible refine (withhold_Due.calls k _ _ l0_0 _ _ l0_1 (wrap64 (a1_0 + a2)) (wrap64 (a1_1 + a3)) t210 t211 t212 t213 t216 t219 _ ?side1 ?side2 ?side3 ?side4 A27.out).mono ?_); (case side1 => exact kc_ (Kd.C_below HR0_0.out HB.out)); (case side2 => exact HC0_0.out); (case side3 => exact kc_ (Kd.C_below HR0_1.out HB.out)); (case side4 => exact HC0_1.out); rintro e w47 ⟨v214, v217, rfl, ho0, ho1, hb⟩; refine ⟨_, rfl, ?_⟩; have HO215 := rl0_ (rn_ ho0 HO208.out); have HO218 := rl0_ (rn_ ho1 HO208.out); replace HO208 := ro2_ HO208.out hb ho0 ho1; replace BK201 := bb_ BK201.out hb; replace BK202 := bb_ BK202.out hb; replace BK203 := bb_ BK203.out hb; replace BK204 := bb_ BK204.out hb; replace HB := hs_ hb; (try clear hb); (try clear hb2); (try clear hk); (try clear hi); (try clear ho0); (try clear ho1)) | ((with_reducible refine gate_dst (N := 11) rfl ?_); (try (refine gate_guard (by rfl) ?_; dsimp only)); refine bx_ 11 #[.int .i64 0, .int .i64 0, .int .i64 0, .slice none 0 0, .slice none 0 0] 30 ?_; intro gb220 hg w48 hbox hb; have BK220 := Aside0.mk hbox; have GW220 := gs_ hg; have GE220 := gs_ hg; have NB201_220 := nl_ hg BK201.out; have NB220_201 := ng_ hg BK201.out; have NB202_220 := nl_ hg BK202.out; have NB220_202 := ng_ hg BK202.out; have NB203_220 := nl_ hg BK203.out; have NB220_203 := ng_ hg BK203.out; have NB204_220 := nl_ hg BK204.out; have NB220_204 := ng_ hg BK204.out; replace HO208 := rl_ HO208.out hb; replace HO215 := rl_ HO215.out hb; replace HO218 := rl_ HO218.out hb; replace BK201 := bb_ BK201.out hb; replace BK202 := bb_ BK202.out hb; replace BK203 := bb_ BK203.out hb; replace BK204 := bb_ BK204.out hb; replace HB := hs_ hb; clear hb hbox hg; have hnb49 := NB220_201.out; have hnc49 := NB201_220.out; have hnb50 := NB220_202.out; have hnc50 := NB202_220.out; have hnb51 := NB220_203.out; have hnc51 := NB203_220.out; have hnb52 := NB220_204.out; have hnc52 := NB204_220.out; obtain ⟨hcz53_0, hcz53_1, hcz53_2, hcz53_3, hcz53_4, hfz53_0, hfz53_1, hfz53_2, hfz53_3, hfz53_4⟩ := c5_ BK220.out; obtain ⟨Ao54, co54, eo54⟩ := Kd.R_slice HO215.out; subst eo54; obtain ⟨Ao55, co55, eo55⟩ := Kd.R_slice HO218.out; subst eo55))
    (try simp only [Act.put, List.setIfInBounds_toArray, List.set_cons_zero, List.set_cons_succ])
    go_cut [49] (fun v49 wc => ∃ (kq : Nat) (x49_28 : Bool), v49 = .bool x49_28 ∧ Aside0 (withhold_Step.j0 kq a2 a3 x49_28 a1_0 a1_1 a1_2 l1_3 l1_4 t210 t211 t212 t213 t216 = some (r1, r2, r3, r4, r5, r6, r7, r8, r9, r10, r11)) ∧ Aside0 (kq ≤ k) ∧ Aside0 (Kd.R (Kd.int .i64) 3 wc w.heap.size (fun k_ => some k_ ≠ ((.slice Ao55 t216.length co55) : Value).ownBlock) (.slice Ao54 t213.length co54) t213) ∧ Aside0 (Kd.R (Kd.int .i64) 3 wc w.heap.size (fun k_ => some k_ ≠ ((.slice Ao54 t213.length co54) : Value).ownBlock) (.slice Ao55 t216.length co55) t216) ∧ Aside0 (wc.heap[gb201]? = some (.cells #[(.slice A0_0 l0_0.length c0_0), (.slice A0_1 l0_1.length c0_1)] 25 (0, 0))) ∧ Aside0 (wc.heap[gb202]? = some (.cells #[.int .i64 a1_0, .int .i64 a1_1, .int .i64 a1_2, (.slice A1_3 l1_3.length c1_3), (.slice A1_4 l1_4.length c1_4)] 30 (0, 0))) ∧ Aside0 (wc.heap[gb203]? = some (.cells #[.int .i64 0, .int .i64 0, .int .i64 0, (.slice none 0 0), (.slice none 0 0)] 30 (0, 0))) ∧ Aside0 (wc.heap[gb204]? = some (.cells #[.int .i64 0, .int .i64 0, .int .i64 0, (.slice none 0 0), (.slice none 0 0)] 30 (0, 0))) ∧ Aside0 (wc.heap[gb220]? = some (.cells #[.int .i64 t210, .int .i64 t211, .int .i64 t212, (.slice Ao54 t213.length co54), (.slice Ao55 t216.length co55)] 30 (0, 0))) ∧ Aside0 (Below w.heap.size w wc))
    case first =>
     have H := HC29.out
     clear HC29
     by_cases c56 : (l1_3.length : Int) = 0
     ·rw [if_pos c56] at H
      have c56b0 : ((l1_3.length : Int) == 0) = true := beq_iff_eq.mpr c56
      have c56b1 : ((l1_3.length : Int) != 0) = false := bne_eq_false_iff_eq.mpr c56
      clear c56
      (first | rw [c56b0] | (simp only [i64_w, i32_w]; rw [c56b0]) | skip)
      by_cases c57 : (l1_4.length : Int) = 0
      ·rw [if_pos c57] at H
       have c57b0 : ((l1_4.length : Int) == 0) = true := beq_iff_eq.mpr c57
       have c57b1 : ((l1_4.length : Int) != 0) = false := bne_eq_false_iff_eq.mpr c57
       clear c57
       have H' := Aside0.mk H
       clear H
       have hnb58 := NB202_201.out
       have hnc58 := NB201_202.out
       have hnb59 := NB202_203.out
       have hnc59 := NB203_202.out
       have hnb60 := NB202_204.out
       have hnc60 := NB204_202.out
       have hnb61 := NB202_220.out
       have hnc61 := NB220_202.out
       obtain ⟨hcz62_0, hcz62_1, hcz62_2, hcz62_3, hcz62_4, hfz62_0, hfz62_1, hfz62_2, hfz62_3, hfz62_4⟩ := c5_ BK202.out
       go_wp2
       go_meet
       case rel => exact ⟨_, (false), sm_, H', ⟨by first | omega | exact Nat.le_refl _⟩, ⟨rs_ (ty_ HO215.out BK220.out)⟩, ⟨rs_ (ty_ HO218.out BK220.out)⟩, ⟨bf_ BK201.out⟩, ⟨bf_ BK202.out⟩, ⟨bf_ BK203.out⟩, ⟨bf_ BK204.out⟩, ⟨bp_ BK220.out⟩, ⟨bl_⟩⟩
      ·rw [if_neg c57] at H
       have c57b0 : ((l1_4.length : Int) == 0) = false := beq_eq_false_iff_ne.mpr c57
       have c57b1 : ((l1_4.length : Int) != 0) = true := bne_iff_ne.mpr c57
       have c57b2 : ¬ (l1_4 = []) := fun h_ => c57 (by rw [h_]; rfl)
       have H' := Aside0.mk H
       clear H
       have hnb63 := NB202_201.out
       have hnc63 := NB201_202.out
       have hnb64 := NB202_203.out
       have hnc64 := NB203_202.out
       have hnb65 := NB202_204.out
       have hnc65 := NB204_202.out
       have hnb66 := NB202_220.out
       have hnc66 := NB220_202.out
       obtain ⟨hcz67_0, hcz67_1, hcz67_2, hcz67_3, hcz67_4, hfz67_0, hfz67_1, hfz67_2, hfz67_3, hfz67_4⟩ := c5_ BK202.out
       have hnb68 := NB201_203.out
       have hnc68 := NB203_201.out
       have hnb69 := NB201_204.out
       have hnc69 := NB204_201.out
       have hnb70 := NB201_220.out
       have hnc70 := NB220_201.out
       obtain ⟨hcz71_0, hcz71_1, hfz71_0, hfz71_1⟩ := c2_ BK201.out
       go_wp2
       go_meet
       case rel => exact ⟨_, (((l1_4.length : Int) != (l0_1.length : Int))), sm_, H', ⟨by first | omega | exact Nat.le_refl _⟩, ⟨rs_ (ty_ HO215.out BK220.out)⟩, ⟨rs_ (ty_ HO218.out BK220.out)⟩, ⟨bf_ BK201.out⟩, ⟨bf_ BK202.out⟩, ⟨bf_ BK203.out⟩, ⟨bf_ BK204.out⟩, ⟨bp_ BK220.out⟩, ⟨bl_⟩⟩
     ·rw [if_neg c56] at H
      have c56b0 : ((l1_3.length : Int) == 0) = false := beq_eq_false_iff_ne.mpr c56
      have c56b1 : ((l1_3.length : Int) != 0) = true := bne_iff_ne.mpr c56
      have c56b2 : ¬ (l1_3 = []) := fun h_ => c56 (by rw [h_]; rfl)
      (first | rw [c56b0] | (simp only [i64_w, i32_w]; rw [c56b0]) | skip)
      by_cases c72 : (l1_3.length : Int) = (l0_1.length : Int)
      ·rw [if_pos c72] at H
       have c72b0 : ((l1_3.length : Int) == (l0_1.length : Int)) = true := beq_iff_eq.mpr c72
       have c72b1 : ((l1_3.length : Int) != (l0_1.length : Int)) = false := bne_eq_false_iff_eq.mpr c72
       have c72b2 : (l1_3.length == l0_1.length) = true := by first | simpa using c72 | (simp at c72 ⊢; omega)
       clear c72
       by_cases c73 : (l1_4.length : Int) = 0
       ·rw [if_pos c73] at H
        have c73b0 : ((l1_4.length : Int) == 0) = true := beq_iff_eq.mpr c73
        have c73b1 : ((l1_4.length : Int) != 0) = false := bne_eq_false_iff_eq.mpr c73
        clear c73
        have H' := Aside0.mk H
        clear H
        have hnb74 := NB202_201.out
        have hnc74 := NB201_202.out
        have hnb75 := NB202_203.out
        have hnc75 := NB203_202.out
        have hnb76 := NB202_204.out
        have hnc76 := NB204_202.out
        have hnb77 := NB202_220.out
        have hnc77 := NB220_202.out
        obtain ⟨hcz78_0, hcz78_1, hcz78_2, hcz78_3, hcz78_4, hfz78_0, hfz78_1, hfz78_2, hfz78_3, hfz78_4⟩ := c5_ BK202.out
        have hnb79 := NB201_203.out
        have hnc79 := NB203_201.out
        have hnb80 := NB201_204.out
        have hnc80 := NB204_201.out
        have hnb81 := NB201_220.out
        have hnc81 := NB220_201.out
        obtain ⟨hcz82_0, hcz82_1, hfz82_0, hfz82_1⟩ := c2_ BK201.out
        go_wp2
        go_meet
        case rel => exact ⟨_, (false), sm_, H', ⟨by first | omega | exact Nat.le_refl _⟩, ⟨rs_ (ty_ HO215.out BK220.out)⟩, ⟨rs_ (ty_ HO218.out BK220.out)⟩, ⟨bf_ BK201.out⟩, ⟨bf_ BK202.out⟩, ⟨bf_ BK203.out⟩, ⟨bf_ BK204.out⟩, ⟨bp_ BK220.out⟩, ⟨bl_⟩⟩
       ·rw [if_neg c73] at H
        have c73b0 : ((l1_4.length : Int) == 0) = false := beq_eq_false_iff_ne.mpr c73
        have c73b1 : ((l1_4.length : Int) != 0) = true := bne_iff_ne.mpr c73
        have c73b2 : ¬ (l1_4 = []) := fun h_ => c73 (by rw [h_]; rfl)
        have H' := Aside0.mk H
        clear H
        have hnb83 := NB202_201.out
        have hnc83 := NB201_202.out
        have hnb84 := NB202_203.out
        have hnc84 := NB203_202.out
        have hnb85 := NB202_204.out
        have hnc85 := NB204_202.out
        have hnb86 := NB202_220.out
        have hnc86 := NB220_202.out
        obtain ⟨hcz87_0, hcz87_1, hcz87_2, hcz87_3, hcz87_4, hfz87_0, hfz87_1, hfz87_2, hfz87_3, hfz87_4⟩ := c5_ BK202.out
        have hnb88 := NB201_203.out
        have hnc88 := NB203_201.out
        have hnb89 := NB201_204.out
        have hnc89 := NB204_201.out
        have hnb90 := NB201_220.out
        have hnc90 := NB220_201.out
        obtain ⟨hcz91_0, hcz91_1, hfz91_0, hfz91_1⟩ := c2_ BK201.out
        go_wp2
        go_meet
        case rel => exact ⟨_, (((l1_4.length : Int) != (l0_1.length : Int))), sm_, H', ⟨by first | omega | exact Nat.le_refl _⟩, ⟨rs_ (ty_ HO215.out BK220.out)⟩, ⟨rs_ (ty_ HO218.out BK220.out)⟩, ⟨bf_ BK201.out⟩, ⟨bf_ BK202.out⟩, ⟨bf_ BK203.out⟩, ⟨bf_ BK204.out⟩, ⟨bp_ BK220.out⟩, ⟨bl_⟩⟩
      ·rw [if_neg c72] at H
       have c72b0 : ((l1_3.length : Int) == (l0_1.length : Int)) = false := beq_eq_false_iff_ne.mpr c72
       have c72b1 : ((l1_3.length : Int) != (l0_1.length : Int)) = true := bne_iff_ne.mpr c72
       have c72b2 : (l1_3.length == l0_1.length) = false := by first | simpa using c72 | (simp at c72 ⊢; omega)
       have H' := Aside0.mk H
       clear H
       have hnb92 := NB202_201.out
       have hnc92 := NB201_202.out
       have hnb93 := NB202_203.out
       have hnc93 := NB203_202.out
       have hnb94 := NB202_204.out
       have hnc94 := NB204_202.out
       have hnb95 := NB202_220.out
       have hnc95 := NB220_202.out
       obtain ⟨hcz96_0, hcz96_1, hcz96_2, hcz96_3, hcz96_4, hfz96_0, hfz96_1, hfz96_2, hfz96_3, hfz96_4⟩ := c5_ BK202.out
       have hnb97 := NB201_203.out
       have hnc97 := NB203_201.out
       have hnb98 := NB201_204.out
       have hnc98 := NB204_201.out
       have hnb99 := NB201_220.out
       have hnc99 := NB220_201.out
       obtain ⟨hcz100_0, hcz100_1, hfz100_0, hfz100_1⟩ := c2_ BK201.out
       go_wp2
       go_meet
       case rel => exact ⟨_, (true), sm_, H', ⟨by first | omega | exact Nat.le_refl _⟩, ⟨rs_ (ty_ HO215.out BK220.out)⟩, ⟨rs_ (ty_ HO218.out BK220.out)⟩, ⟨bf_ BK201.out⟩, ⟨bf_ BK202.out⟩, ⟨bf_ BK203.out⟩, ⟨bf_ BK204.out⟩, ⟨bp_ BK220.out⟩, ⟨bl_⟩⟩
    case rest =>
     clear HC29
     try clear c6; try clear c8; try clear c28; try clear c28b0; try clear c28b1; try clear hcz37_0; try clear hcz37_1; try clear hcz41_0; try clear hcz41_1; try clear hcz41_2; try clear hcz41_3; try clear hcz41_4; try clear hcz45_0; try clear hcz45_1; try clear hcz46_0; try clear hcz46_1; try clear hcz46_2; try clear hcz46_3; try clear hcz46_4; try clear hcz53_0; try clear hcz53_1; try clear hcz53_2
     try clear hcz53_3; try clear hcz53_4; try clear hfz37_0; try clear hfz37_1; try clear hfz41_0; try clear hfz41_1; try clear hfz41_2; try clear hfz41_3; try clear hfz41_4; try clear hfz45_0; try clear hfz45_1; try clear hfz46_0; try clear hfz46_1; try clear hfz46_2; try clear hfz46_3; try clear hfz46_4; try clear hfz53_0; try clear hfz53_1; try clear hfz53_2; try clear hfz53_3; try clear hfz53_4
     obtain ⟨kq, x49_28, rfl, HA, HJ28, HO_221003, HO_221004, BK201, BK202, BK203, BK204, BK220, HB⟩ := hcut
     cases kq with
     | zero => exact absurd HA.out (by simp [withhold_Step.j0])
     | succ kj28 =>
      have H := HA.out
      clear HA
      simp only [withhold_Step.j0] at H
      by_cases c101 : x49_28 = true
      ·subst c101
       rw [if_pos rfl] at H
       simp only [Option.some.injEq, Prod.mk.injEq] at H
       obtain ⟨rfl, rfl, rfl, rfl, rfl, rfl, rfl, rfl, rfl, rfl, rfl⟩ := H
       have hnb102 := NB203_201.out
       have hnc102 := NB201_203.out
       have hnb103 := NB203_202.out
       have hnc103 := NB202_203.out
       have hnb104 := NB203_204.out
       have hnc104 := NB204_203.out
       have hnb105 := NB203_220.out
       have hnc105 := NB220_203.out
       obtain ⟨hcz106_0, hcz106_1, hcz106_2, hcz106_3, hcz106_4, hfz106_0, hfz106_1, hfz106_2, hfz106_3, hfz106_4⟩ := c5_ BK203.out
       have hnb107 := NB204_201.out
       have hnc107 := NB201_204.out
       have hnb108 := NB204_202.out
       have hnc108 := NB202_204.out
       have hnb109 := NB204_220.out
       have hnc109 := NB220_204.out
       obtain ⟨hcz110_0, hcz110_1, hcz110_2, hcz110_3, hcz110_4, hfz110_0, hfz110_1, hfz110_2, hfz110_3, hfz110_4⟩ := c5_ BK204.out
       go_wp2
       refine bodyPost_ret (results_list (rs := [.cell 8 30, .cell 9 30, .tmp 10]) rfl (by simp) (.cell gb203 30 #[.int .i64 0, .int .i64 0, .int .i64 0, .slice none 0 0, .slice none 0 0] (0, 0) _ rfl (bp_ BK203.out) Try.underlying30 rfl (by kernel_rfl) (.cell gb204 30 #[.int .i64 0, .int .i64 0, .int .i64 0, .slice none 0 0, .slice none 0 0] (0, 0) _ rfl (bp_ BK204.out) Try.underlying30 rfl (by kernel_rfl) (.tmp .nil)))) rfl ?_
       exact ⟨_, _, _, _, se_, kn_, kn_, kn_, kn_, bl_⟩
      ·replace c101 := Bool.eq_false_iff.mpr c101
       subst c101
       rw [if_neg (show ¬ (false = true) by decide)] at H
       replace H := Option.bind_eq_some_iff.mp H
       obtain ⟨t221, A1110, H⟩ := H
       (try dsimp only at H)
       have A111 := Aside0.mk A1110
       clear A1110
       replace H := Option.bind_eq_some_iff.mp H
       obtain ⟨t224, A1120, H⟩ := H
       (try dsimp only at H)
       have A112 := Aside0.mk A1120
       clear A1120
       simp only [Option.some.injEq, Prod.mk.injEq] at H
       obtain ⟨rfl, rfl, rfl, rfl, rfl, rfl, rfl, rfl, rfl, rfl, rfl⟩ := H
       try go_wp2
       replace HO_221003 := Aside0.mk (Kd.R_drew HO_221003.out)
       replace HO_221004 := Aside0.mk (Kd.R_drew HO_221004.out)
       replace BK201 := Aside0.mk (blk_drew BK201.out)
       replace BK202 := Aside0.mk (blk_drew BK202.out)
       replace BK203 := Aside0.mk (blk_drew BK203.out)
       replace BK204 := Aside0.mk (blk_drew BK204.out)
       replace BK220 := Aside0.mk (blk_drew BK220.out)
       replace HB := Aside0.mk (below_drew1 HB.out)
       refine start_ (n := 22) (S := fun w' => w'.cell? ⟨gb220, 0, none⟩ = some (.int .i64 t210) ∧ w'.cell? ⟨gb220, 1, none⟩ = some (.int .i64 t211) ∧ w'.cell? ⟨gb220, 2, none⟩ = some (.int .i64 t212) ∧ w'.cell? ⟨gb220, 3, none⟩ = some (.slice Ao54 t213.length co54) ∧ w'.cell? ⟨gb220, 4, none⟩ = some (.slice Ao55 t216.length co55) ∧ w'.cell? ⟨gb202, 0, none⟩ = some (.int .i64 a1_0) ∧ w'.cell? ⟨gb202, 1, none⟩ = some (.int .i64 a1_1) ∧ w'.cell? ⟨gb202, 2, none⟩ = some (.int .i64 a1_2) ∧ w'.cell? ⟨gb202, 3, none⟩ = some (.slice A1_3 l1_3.length c1_3) ∧ w'.cell? ⟨gb202, 4, none⟩ = some (.slice A1_4 l1_4.length c1_4)) (ds := []) #[false, false, false, false, false, false, false, false, false, false, false, false, false, false, false, false, false, false, false, false, false, false] (by kernel_rfl) rfl rfl ⟨(blk_cell BK220.out 0).trans rfl, (blk_cell BK220.out 1).trans rfl, (blk_cell BK220.out 2).trans rfl, (blk_cell BK220.out 3).trans rfl, (blk_cell BK220.out 4).trans rfl, (blk_cell BK202.out 0).trans rfl, (blk_cell BK202.out 1).trans rfl, (blk_cell BK202.out 2).trans rfl, (blk_cell BK202.out 3).trans rfl, (blk_cell BK202.out 4).trans rfl⟩ (fun hHeld => ?_); refine with_tabW withhold_Step.tab10 withhold_Step.bits10 (fun HT_ HW_ => ?_)
       generalize wc.drew = w113 at HO_221003 HO_221004 BK201 BK202 BK203 BK204 BK220 HB hHeld ⊢
       refine pure_ (i := 1) (N := some 81) (v := ?_) (a' := ?_) #[false, true, false, false, false, false, false, false, false, false, false, false, false, false, false, false, false, false, false, false, false, false] rfl rfl (any_of HT_.out (by kernel_rfl)) (fun _ _ _ h => h) (Or.inl ⟨by rfl, ?_⟩) ?_ ?_
       rotate_left
       ·intro w'
        go_simp
        with_reducible rfl
       rotate_left
       ·simp only [Act.put, List.setIfInBounds_toArray, List.set_cons_zero, List.set_cons_succ, i64_w, i32_w]
        rfl
       refine pure_ (i := 2) (N := some 82) (v := ?_) (a' := ?_) #[false, true, true, false, false, false, false, false, false, false, false, false, false, false, false, false, false, false, false, false, false, false] rfl rfl (any_of HT_.out (by kernel_rfl)) (fun _ _ _ h => h) (Or.inl ⟨by rfl, ?_⟩) ?_ ?_
       rotate_left
       ·intro w'
        go_simp
        with_reducible rfl
       rotate_left
       ·simp only [Act.put, List.setIfInBounds_toArray, List.set_cons_zero, List.set_cons_succ, i64_w, i32_w]
        rfl
       refine pure_ (i := 3) (N := some 83) (v := ?_) (a' := ?_) #[false, true, true, true, false, false, false, false, false, false, false, false, false, false, false, false, false, false, false, false, false, false] rfl rfl (any_of HT_.out (by kernel_rfl)) (fun _ _ _ h => h) (Or.inl ⟨by rfl, ?_⟩) ?_ ?_
       rotate_left
       ·intro w'
        go_simp
        with_reducible rfl
       rotate_left
       ·simp only [Act.put, List.setIfInBounds_toArray, List.set_cons_zero, List.set_cons_succ, i64_w, i32_w]
        rfl
       refine pure_ (i := 5) (N := some 85) (v := ?_) (a' := ?_) #[false, true, true, true, false, true, false, false, false, false, false, false, false, false, false, false, false, false, false, false, false, false] rfl rfl (any_of HT_.out (by kernel_rfl)) (fun _ _ _ h => h) (Or.inl ⟨by rfl, ?_⟩) ?_ ?_
       rotate_left
       ·intro w'
        go_simp
        with_reducible rfl
       rotate_left
       ·simp only [Act.put, List.setIfInBounds_toArray, List.set_cons_zero, List.set_cons_succ, i64_w, i32_w]
        rfl
       refine pure_ (i := 8) (N := some 88) (v := ?_) (a' := ?_) #[false, true, true, true, false, true, false, false, true, false, false, false, false, false, false, false, false, false, false, false, false, false] rfl rfl (any_of HT_.out (by kernel_rfl)) (fun _ _ _ h => h) (Or.inl ⟨by rfl, ?_⟩) ?_ ?_
       rotate_left
       ·intro w'
        go_simp
        with_reducible rfl
       rotate_left
       ·simp only [Act.put, List.setIfInBounds_toArray, List.set_cons_zero, List.set_cons_succ, i64_w, i32_w]
        rfl
       refine pure_ (i := 10) (N := some 90) (v := ?_) (a' := ?_) #[false, true, true, true, false, true, false, false, true, false, true, false, false, false, false, false, false, false, false, false, false, false] rfl rfl (any_of HT_.out (by kernel_rfl)) (fun _ _ _ h => h) (Or.inl ⟨by rfl, ?_⟩) ?_ ?_
       rotate_left
       ·intro w'
        go_simp
        with_reducible rfl
       rotate_left
       ·simp only [Act.put, List.setIfInBounds_toArray, List.set_cons_zero, List.set_cons_succ, i64_w, i32_w]
        rfl
       refine pure_ (i := 13) (N := some 93) (v := ?_) (a' := ?_) #[false, true, true, true, false, true, false, false, true, false, true, false, false, true, false, false, false, false, false, false, false, false] rfl rfl (any_of HT_.out (by kernel_rfl)) (fun _ _ _ h => h) (Or.inl ⟨by rfl, ?_⟩) ?_ ?_
       rotate_left
       ·intro w'
        go_simp
        with_reducible rfl
       rotate_left
       ·simp only [Act.put, List.setIfInBounds_toArray, List.set_cons_zero, List.set_cons_succ, i64_w, i32_w]
        rfl
       refine pure_ (i := 15) (N := some 95) (v := ?_) (a' := ?_) #[false, true, true, true, false, true, false, false, true, false, true, false, false, true, false, true, false, false, false, false, false, false] rfl rfl (any_of HT_.out (by kernel_rfl)) (fun _ _ _ h => h) (Or.inl ⟨by rfl, ?_⟩) ?_ ?_
       rotate_left
       ·intro w'
        go_simp
        with_reducible rfl
       rotate_left
       ·simp only [Act.put, List.setIfInBounds_toArray, List.set_cons_zero, List.set_cons_succ, i64_w, i32_w]
        rfl
       refine take_ (i := 0) (N := some 80) (v := ?_) (a' := ?_) #[true, true, true, true, false, true, false, false, true, false, true, false, false, true, false, true, false, false, false, false, false, false] rfl rfl (take_ofW HT_.out HW_.out (by kernel_rfl)) (fun _ _ _ h => h) (Or.inl ⟨by rfl, ?_⟩) hHeld ?_ ?_
       rotate_left
       ·rintro w' ⟨s0, s1, s2, s3, s4, s5, s6, s7, s8, s9⟩
        go_simp
        with_reducible rfl
       rotate_left
       ·simp only [Act.put, List.setIfInBounds_toArray, List.set_cons_zero, List.set_cons_succ, i64_w, i32_w]
        rfl
       refine take_ (i := 4) (N := some 84) (v := ?_) (a' := ?_) #[true, true, true, true, true, true, false, false, true, false, true, false, false, true, false, true, false, false, false, false, false, false] rfl rfl (take_ofW HT_.out HW_.out (by kernel_rfl)) (fun _ _ _ h => h) (Or.inl ⟨by rfl, ?_⟩) hHeld ?_ ?_
       rotate_left
       ·rintro w' ⟨s0, s1, s2, s3, s4, s5, s6, s7, s8, s9⟩
        go_simp
        with_reducible rfl
       rotate_left
       ·simp only [Act.put, List.setIfInBounds_toArray, List.set_cons_zero, List.set_cons_succ, i64_w, i32_w]
        rfl
       refine take_ (i := 6) (N := some 86) (v := ?_) (a' := ?_) #[true, true, true, true, true, true, true, false, true, false, true, false, false, true, false, true, false, false, false, false, false, false] rfl rfl (take_ofW HT_.out HW_.out (by kernel_rfl)) (fun _ _ _ h => h) (Or.inl ⟨by rfl, ?_⟩) hHeld ?_ ?_
       rotate_left
       ·rintro w' ⟨s0, s1, s2, s3, s4, s5, s6, s7, s8, s9⟩
        go_simp
        with_reducible rfl
       rotate_left
       ·simp only [Act.put, List.setIfInBounds_toArray, List.set_cons_zero, List.set_cons_succ, i64_w, i32_w]
        rfl
       refine pure_ (i := 7) (N := some 87) (v := ?_) (a' := ?_) #[true, true, true, true, true, true, true, true, true, false, true, false, false, true, false, true, false, false, false, false, false, false] rfl rfl (any_of HT_.out (by kernel_rfl)) (fun _ _ _ h => h) (Or.inl ⟨by rfl, ?_⟩) ?_ ?_
       rotate_left
       ·intro w'
        go_simp
        with_reducible rfl
       rotate_left
       ·simp only [Act.put, List.setIfInBounds_toArray, List.set_cons_zero, List.set_cons_succ, i64_w, i32_w]
        rfl
       refine take_ (i := 9) (N := some 89) (v := ?_) (a' := ?_) #[true, true, true, true, true, true, true, true, true, true, true, false, false, true, false, true, false, false, false, false, false, false] rfl rfl (take_ofW HT_.out HW_.out (by kernel_rfl)) (fun _ _ _ h => h) (Or.inl ⟨by rfl, ?_⟩) hHeld ?_ ?_
       rotate_left
       ·rintro w' ⟨s0, s1, s2, s3, s4, s5, s6, s7, s8, s9⟩
        go_simp
        with_reducible rfl
       rotate_left
       ·simp only [Act.put, List.setIfInBounds_toArray, List.set_cons_zero, List.set_cons_succ, i64_w, i32_w]
        rfl
       refine take_ (i := 11) (N := some 91) (v := ?_) (a' := ?_) #[true, true, true, true, true, true, true, true, true, true, true, true, false, true, false, true, false, false, false, false, false, false] rfl rfl (take_ofW HT_.out HW_.out (by kernel_rfl)) (fun _ _ _ h => h) (Or.inl ⟨by rfl, ?_⟩) hHeld ?_ ?_
       rotate_left
       ·rintro w' ⟨s0, s1, s2, s3, s4, s5, s6, s7, s8, s9⟩
        go_simp
        with_reducible rfl
       rotate_left
       ·simp only [Act.put, List.setIfInBounds_toArray, List.set_cons_zero, List.set_cons_succ, i64_w, i32_w]
        rfl
       refine take_ (i := 14) (N := some 94) (v := ?_) (a' := ?_) #[true, true, true, true, true, true, true, true, true, true, true, true, false, true, true, true, false, false, false, false, false, false] rfl rfl (take_ofW HT_.out HW_.out (by kernel_rfl)) (fun _ _ _ h => h) (Or.inl ⟨by rfl, ?_⟩) hHeld ?_ ?_
       rotate_left
       ·rintro w' ⟨s0, s1, s2, s3, s4, s5, s6, s7, s8, s9⟩
        go_simp
        with_reducible rfl
       rotate_left
       ·simp only [Act.put, List.setIfInBounds_toArray, List.set_cons_zero, List.set_cons_succ, i64_w, i32_w]
        rfl
       refine take_ (i := 16) (N := some 96) (v := ?_) (a' := ?_) #[true, true, true, true, true, true, true, true, true, true, true, true, false, true, true, true, true, false, false, false, false, false] rfl rfl (take_ofW HT_.out HW_.out (by kernel_rfl)) (fun _ _ _ h => h) (Or.inl ⟨by rfl, ?_⟩) hHeld ?_ ?_
       rotate_left
       ·rintro w' ⟨s0, s1, s2, s3, s4, s5, s6, s7, s8, s9⟩
        go_simp
        with_reducible rfl
       rotate_left
       ·simp only [Act.put, List.setIfInBounds_toArray, List.set_cons_zero, List.set_cons_succ, i64_w, i32_w]
        rfl
       refine one_ (i := 12) (N := some 92) #[true, true, true, true, true, true, true, true, true, true, true, true, true, true, true, true, true, false, false, false, false, false] rfl rfl (one_of HT_.out (by kernel_rfl)) (by decide) (fun K hK => ?_)
       refine goes_ Try.func21 (by kernel_rfl) rfl #[.slice Ao54 t213.length co54, .slice A1_3 l1_3.length c1_3] (by rfl) rfl rfl ga_ ?_
       with_reducible refine (withhold_less.calls kj28 _ _ t213 _ _ l1_3 t221 _ ?side1 ?side2 ?side3 ?side4 A111.out).mono ?_
       (case side1 => exact kc_ (Kd.R_reads' HO_221003.out).2.2)
       (case side2 => exact (Kd.R_reads' HO_221003.out).2.1)
       (case side3 => exact kc_ (Kd.C_below HR1_3.out HB.out))
       (case side4 => exact HC1_3.out)
       rintro e w114 ⟨v222, rfl, ho0, hb⟩
       refine ⟨_, rfl, ?_⟩
       have HO223 := rl0_ (rn_ (rn_ ho0 HO_221003.out) HO_221004.out)
       replace HO_221003 := re_ HO_221003.out ho0 hb
       replace HO_221004 := re_ HO_221004.out ho0 hb
       replace BK201 := bb_ BK201.out hb
       replace BK202 := bb_ BK202.out hb
       replace BK203 := bb_ BK203.out hb
       replace BK204 := bb_ BK204.out hb
       replace BK220 := bb_ BK220.out hb
       replace HB := hs_ hb
       (try clear hb)
       (try clear hb2)
       (try clear hk)
       (try clear hi)
       (try clear ho0)
       refine hK.out _ _ ⟨(blk_cell BK220.out 0).trans rfl, (blk_cell BK220.out 1).trans rfl, (blk_cell BK220.out 2).trans rfl, (blk_cell BK220.out 3).trans rfl, (blk_cell BK220.out 4).trans rfl, (blk_cell BK202.out 0).trans rfl, (blk_cell BK202.out 1).trans rfl, (blk_cell BK202.out 2).trans rfl, (blk_cell BK202.out 3).trans rfl, (blk_cell BK202.out 4).trans rfl⟩ (fun hHeld => ?_)
       clear hK K
       refine norm_ (a' := ?_) ?_ ?_
       rotate_left
       ·show Act.put _ (some 92) _ = _
        simp only [Act.put, List.setIfInBounds_toArray, List.set_cons_zero, List.set_cons_succ, i64_w, i32_w]
        rfl
       refine one_ (i := 17) (N := some 97) #[true, true, true, true, true, true, true, true, true, true, true, true, true, true, true, true, true, true, false, false, false, false] rfl rfl (one_of HT_.out (by kernel_rfl)) (by decide) (fun K hK => ?_)
       refine goes_ Try.func21 (by kernel_rfl) rfl #[.slice Ao55 t216.length co55, .slice A1_4 l1_4.length c1_4] (by rfl) rfl rfl ga_ ?_
       with_reducible refine (withhold_less.calls kj28 _ _ t216 _ _ l1_4 t224 _ ?side1 ?side2 ?side3 ?side4 A112.out).mono ?_
       (case side1 => exact kc_ (Kd.R_reads' HO_221004.out).2.2)
       (case side2 => exact (Kd.R_reads' HO_221004.out).2.1)
       (case side3 => exact kc_ (Kd.C_below HR1_4.out HB.out))
       (case side4 => exact HC1_4.out)
       rintro e w115 ⟨v225, rfl, ho0, hb⟩
       refine ⟨_, rfl, ?_⟩
       have HO226 := rl0_ (rn_ (rn_ (rn_ ho0 HO_221003.out) HO_221004.out) HO223.out)
       replace HO_221003 := re_ HO_221003.out ho0 hb
       replace HO_221004 := re_ HO_221004.out ho0 hb
       replace HO223 := re_ HO223.out ho0 hb
       replace BK201 := bb_ BK201.out hb
       replace BK202 := bb_ BK202.out hb
       replace BK203 := bb_ BK203.out hb
       replace BK204 := bb_ BK204.out hb
       replace BK220 := bb_ BK220.out hb
       replace HB := hs_ hb
       (try clear hb)
       (try clear hb2)
       (try clear hk)
       (try clear hi)
       (try clear ho0)
       obtain ⟨Ao116, co116, eo116⟩ := Kd.R_slice HO226.out
       (first | subst eo116 | (injection eo116 with f1_ f2_ f3_; have f4_ := f1_.symm; have f5_ := f3_.symm; clear f1_ f2_ f3_; subst f4_; subst f5_))
       obtain ⟨Ao117, co117, eo117⟩ := Kd.R_slice HO223.out
       (first | subst eo117 | (injection eo117 with f1_ f2_ f3_; have f4_ := f1_.symm; have f5_ := f3_.symm; clear f1_ f2_ f3_; subst f4_; subst f5_))
       refine hK.out _ _ ⟨(blk_cell BK220.out 0).trans rfl, (blk_cell BK220.out 1).trans rfl, (blk_cell BK220.out 2).trans rfl, (blk_cell BK220.out 3).trans rfl, (blk_cell BK220.out 4).trans rfl, (blk_cell BK202.out 0).trans rfl, (blk_cell BK202.out 1).trans rfl, (blk_cell BK202.out 2).trans rfl, (blk_cell BK202.out 3).trans rfl, (blk_cell BK202.out 4).trans rfl⟩ (fun hHeld => ?_)
       clear hK K
       refine norm_ (a' := ?_) ?_ ?_
       rotate_left
       ·show Act.put _ (some 97) _ = _
        simp only [Act.put, List.setIfInBounds_toArray, List.set_cons_zero, List.set_cons_succ, i64_w, i32_w]
        rfl
       refine pure_ (i := 18) (N := some 98) (v := ?_) (a' := ?_) #[true, true, true, true, true, true, true, true, true, true, true, true, true, true, true, true, true, true, true, false, false, false] rfl rfl (any_of HT_.out (by kernel_rfl)) (fun _ _ _ h => h) (Or.inl ⟨by rfl, ?_⟩) ?_ ?_
       rotate_left
       ·intro w'
        go_simp
        with_reducible rfl
       rotate_left
       ·simp only [Act.put, List.setIfInBounds_toArray, List.set_cons_zero, List.set_cons_succ, i64_w, i32_w]
        rfl
       refine one_ (i := 19) (N := none) #[true, true, true, true, true, true, true, true, true, true, true, true, true, true, true, true, true, true, true, true, false, false] rfl rfl (one_of HT_.out (by kernel_rfl)) (by decide) (fun K hK => ?_)
       have hs118 : w115.cell? ⟨gb203, 0, none⟩ = some (.int .i64 0) := (blk_cell BK203.out 0).trans rfl
       have hfs118 := blk_frozen BK203.out 0
       have hns118_0 := NB201_203.out
       have hns118_1 := NB202_203.out
       have hns118_3 := NB204_203.out
       have hns118_4 := NB220_203.out
       have hms118_0 := NB203_201.out
       have hms118_1 := NB203_202.out
       have hms118_3 := NB203_204.out
       have hms118_4 := NB203_220.out
       have hs119 : w115.cell? ⟨gb203, 1, none⟩ = some (.int .i64 0) := (blk_cell BK203.out 1).trans rfl
       have hfs119 := blk_frozen BK203.out 1
       have hns119_0 := NB201_203.out
       have hns119_1 := NB202_203.out
       have hns119_3 := NB204_203.out
       have hns119_4 := NB220_203.out
       have hms119_0 := NB203_201.out
       have hms119_1 := NB203_202.out
       have hms119_3 := NB203_204.out
       have hms119_4 := NB203_220.out
       have hs120 : w115.cell? ⟨gb203, 2, none⟩ = some (.int .i64 0) := (blk_cell BK203.out 2).trans rfl
       have hfs120 := blk_frozen BK203.out 2
       have hns120_0 := NB201_203.out
       have hns120_1 := NB202_203.out
       have hns120_3 := NB204_203.out
       have hns120_4 := NB220_203.out
       have hms120_0 := NB203_201.out
       have hms120_1 := NB203_202.out
       have hms120_3 := NB203_204.out
       have hms120_4 := NB203_220.out
       have hs121 : w115.cell? ⟨gb203, 3, none⟩ = some (.slice none 0 0) := (blk_cell BK203.out 3).trans rfl
       have hfs121 := blk_frozen BK203.out 3
       have hns121_0 := NB201_203.out
       have hns121_1 := NB202_203.out
       have hns121_3 := NB204_203.out
       have hns121_4 := NB220_203.out
       have hms121_0 := NB203_201.out
       have hms121_1 := NB203_202.out
       have hms121_3 := NB203_204.out
       have hms121_4 := NB203_220.out
       have hs122 : w115.cell? ⟨gb203, 4, none⟩ = some (.slice none 0 0) := (blk_cell BK203.out 4).trans rfl
       have hfs122 := blk_frozen BK203.out 4
       have hns122_0 := NB201_203.out
       have hns122_1 := NB202_203.out
       have hns122_3 := NB204_203.out
       have hns122_4 := NB220_203.out
       have hms122_0 := NB203_201.out
       have hms122_1 := NB203_202.out
       have hms122_3 := NB203_204.out
       have hms122_4 := NB203_220.out
       refine skip_ (w1 := ?_) (by rfl) rfl ?_ ?_
       rotate_left
       ·go_simp
        rfl
       refine hK.out _ _ ⟨((cell_far (p := ⟨gb203, _, none⟩) NB220_203.out _).trans (((cell_far (p := ⟨gb203, _, none⟩) NB220_203.out _).trans (((cell_far (p := ⟨gb203, _, none⟩) NB220_203.out _).trans (((cell_far (p := ⟨gb203, _, none⟩) NB220_203.out _).trans (((cell_far (p := ⟨gb203, _, none⟩) NB220_203.out _).trans (hHeld.1)))))))))), ((cell_far (p := ⟨gb203, _, none⟩) NB220_203.out _).trans (((cell_far (p := ⟨gb203, _, none⟩) NB220_203.out _).trans (((cell_far (p := ⟨gb203, _, none⟩) NB220_203.out _).trans (((cell_far (p := ⟨gb203, _, none⟩) NB220_203.out _).trans (((cell_far (p := ⟨gb203, _, none⟩) NB220_203.out _).trans (hHeld.2.1)))))))))), ((cell_far (p := ⟨gb203, _, none⟩) NB220_203.out _).trans (((cell_far (p := ⟨gb203, _, none⟩) NB220_203.out _).trans (((cell_far (p := ⟨gb203, _, none⟩) NB220_203.out _).trans (((cell_far (p := ⟨gb203, _, none⟩) NB220_203.out _).trans (((cell_far (p := ⟨gb203, _, none⟩) NB220_203.out _).trans (hHeld.2.2.1)))))))))), ((cell_far (p := ⟨gb203, _, none⟩) NB220_203.out _).trans (((cell_far (p := ⟨gb203, _, none⟩) NB220_203.out _).trans (((cell_far (p := ⟨gb203, _, none⟩) NB220_203.out _).trans (((cell_far (p := ⟨gb203, _, none⟩) NB220_203.out _).trans (((cell_far (p := ⟨gb203, _, none⟩) NB220_203.out _).trans (hHeld.2.2.2.1)))))))))), ((cell_far (p := ⟨gb203, _, none⟩) NB220_203.out _).trans (((cell_far (p := ⟨gb203, _, none⟩) NB220_203.out _).trans (((cell_far (p := ⟨gb203, _, none⟩) NB220_203.out _).trans (((cell_far (p := ⟨gb203, _, none⟩) NB220_203.out _).trans (((cell_far (p := ⟨gb203, _, none⟩) NB220_203.out _).trans (hHeld.2.2.2.2.1)))))))))), ((cell_far (p := ⟨gb203, _, none⟩) NB202_203.out _).trans (((cell_far (p := ⟨gb203, _, none⟩) NB202_203.out _).trans (((cell_far (p := ⟨gb203, _, none⟩) NB202_203.out _).trans (((cell_far (p := ⟨gb203, _, none⟩) NB202_203.out _).trans (((cell_far (p := ⟨gb203, _, none⟩) NB202_203.out _).trans (hHeld.2.2.2.2.2.1)))))))))), ((cell_far (p := ⟨gb203, _, none⟩) NB202_203.out _).trans (((cell_far (p := ⟨gb203, _, none⟩) NB202_203.out _).trans (((cell_far (p := ⟨gb203, _, none⟩) NB202_203.out _).trans (((cell_far (p := ⟨gb203, _, none⟩) NB202_203.out _).trans (((cell_far (p := ⟨gb203, _, none⟩) NB202_203.out _).trans (hHeld.2.2.2.2.2.2.1)))))))))), ((cell_far (p := ⟨gb203, _, none⟩) NB202_203.out _).trans (((cell_far (p := ⟨gb203, _, none⟩) NB202_203.out _).trans (((cell_far (p := ⟨gb203, _, none⟩) NB202_203.out _).trans (((cell_far (p := ⟨gb203, _, none⟩) NB202_203.out _).trans (((cell_far (p := ⟨gb203, _, none⟩) NB202_203.out _).trans (hHeld.2.2.2.2.2.2.2.1)))))))))), ((cell_far (p := ⟨gb203, _, none⟩) NB202_203.out _).trans (((cell_far (p := ⟨gb203, _, none⟩) NB202_203.out _).trans (((cell_far (p := ⟨gb203, _, none⟩) NB202_203.out _).trans (((cell_far (p := ⟨gb203, _, none⟩) NB202_203.out _).trans (((cell_far (p := ⟨gb203, _, none⟩) NB202_203.out _).trans (hHeld.2.2.2.2.2.2.2.2.1)))))))))), ((cell_far (p := ⟨gb203, _, none⟩) NB202_203.out _).trans (((cell_far (p := ⟨gb203, _, none⟩) NB202_203.out _).trans (((cell_far (p := ⟨gb203, _, none⟩) NB202_203.out _).trans (((cell_far (p := ⟨gb203, _, none⟩) NB202_203.out _).trans (((cell_far (p := ⟨gb203, _, none⟩) NB202_203.out _).trans (hHeld.2.2.2.2.2.2.2.2.2))))))))))⟩ (fun hHeld => ?_)
       clear hK K
       refine one_ (i := 20) (N := none) #[true, true, true, true, true, true, true, true, true, true, true, true, true, true, true, true, true, true, true, true, true, false] rfl rfl (one_of HT_.out (by kernel_rfl)) (by decide) (fun K hK => ?_)
       have hs123 : w115.cell? ⟨gb204, 0, none⟩ = some (.int .i64 0) := (blk_cell BK204.out 0).trans rfl
       have hfs123 := blk_frozen BK204.out 0
       have hns123_0 := NB201_204.out
       have hns123_1 := NB202_204.out
       have hns123_2 := NB203_204.out
       have hns123_4 := NB220_204.out
       have hms123_0 := NB204_201.out
       have hms123_1 := NB204_202.out
       have hms123_2 := NB204_203.out
       have hms123_4 := NB204_220.out
       have hs124 : w115.cell? ⟨gb204, 1, none⟩ = some (.int .i64 0) := (blk_cell BK204.out 1).trans rfl
       have hfs124 := blk_frozen BK204.out 1
       have hns124_0 := NB201_204.out
       have hns124_1 := NB202_204.out
       have hns124_2 := NB203_204.out
       have hns124_4 := NB220_204.out
       have hms124_0 := NB204_201.out
       have hms124_1 := NB204_202.out
       have hms124_2 := NB204_203.out
       have hms124_4 := NB204_220.out
       have hs125 : w115.cell? ⟨gb204, 2, none⟩ = some (.int .i64 0) := (blk_cell BK204.out 2).trans rfl
       have hfs125 := blk_frozen BK204.out 2
       have hns125_0 := NB201_204.out
       have hns125_1 := NB202_204.out
       have hns125_2 := NB203_204.out
       have hns125_4 := NB220_204.out
       have hms125_0 := NB204_201.out
       have hms125_1 := NB204_202.out
       have hms125_2 := NB204_203.out
       have hms125_4 := NB204_220.out
       have hs126 : w115.cell? ⟨gb204, 3, none⟩ = some (.slice none 0 0) := (blk_cell BK204.out 3).trans rfl
       have hfs126 := blk_frozen BK204.out 3
       have hns126_0 := NB201_204.out
       have hns126_1 := NB202_204.out
       have hns126_2 := NB203_204.out
       have hns126_4 := NB220_204.out
       have hms126_0 := NB204_201.out
       have hms126_1 := NB204_202.out
       have hms126_2 := NB204_203.out
       have hms126_4 := NB204_220.out
       have hs127 : w115.cell? ⟨gb204, 4, none⟩ = some (.slice none 0 0) := (blk_cell BK204.out 4).trans rfl
       have hfs127 := blk_frozen BK204.out 4
       have hns127_0 := NB201_204.out
       have hns127_1 := NB202_204.out
       have hns127_2 := NB203_204.out
       have hns127_4 := NB220_204.out
       have hms127_0 := NB204_201.out
       have hms127_1 := NB204_202.out
       have hms127_2 := NB204_203.out
       have hms127_4 := NB204_220.out
       refine skip_ (w1 := ?_) (by rfl) rfl ?_ ?_
       rotate_left
       ·go_simp
        rfl
       refine hK.out _ _ ⟨((cell_far (p := ⟨gb204, _, none⟩) NB220_204.out _).trans (((cell_far (p := ⟨gb204, _, none⟩) NB220_204.out _).trans (((cell_far (p := ⟨gb204, _, none⟩) NB220_204.out _).trans (((cell_far (p := ⟨gb204, _, none⟩) NB220_204.out _).trans (((cell_far (p := ⟨gb204, _, none⟩) NB220_204.out _).trans (hHeld.1)))))))))), ((cell_far (p := ⟨gb204, _, none⟩) NB220_204.out _).trans (((cell_far (p := ⟨gb204, _, none⟩) NB220_204.out _).trans (((cell_far (p := ⟨gb204, _, none⟩) NB220_204.out _).trans (((cell_far (p := ⟨gb204, _, none⟩) NB220_204.out _).trans (((cell_far (p := ⟨gb204, _, none⟩) NB220_204.out _).trans (hHeld.2.1)))))))))), ((cell_far (p := ⟨gb204, _, none⟩) NB220_204.out _).trans (((cell_far (p := ⟨gb204, _, none⟩) NB220_204.out _).trans (((cell_far (p := ⟨gb204, _, none⟩) NB220_204.out _).trans (((cell_far (p := ⟨gb204, _, none⟩) NB220_204.out _).trans (((cell_far (p := ⟨gb204, _, none⟩) NB220_204.out _).trans (hHeld.2.2.1)))))))))), ((cell_far (p := ⟨gb204, _, none⟩) NB220_204.out _).trans (((cell_far (p := ⟨gb204, _, none⟩) NB220_204.out _).trans (((cell_far (p := ⟨gb204, _, none⟩) NB220_204.out _).trans (((cell_far (p := ⟨gb204, _, none⟩) NB220_204.out _).trans (((cell_far (p := ⟨gb204, _, none⟩) NB220_204.out _).trans (hHeld.2.2.2.1)))))))))), ((cell_far (p := ⟨gb204, _, none⟩) NB220_204.out _).trans (((cell_far (p := ⟨gb204, _, none⟩) NB220_204.out _).trans (((cell_far (p := ⟨gb204, _, none⟩) NB220_204.out _).trans (((cell_far (p := ⟨gb204, _, none⟩) NB220_204.out _).trans (((cell_far (p := ⟨gb204, _, none⟩) NB220_204.out _).trans (hHeld.2.2.2.2.1)))))))))), ((cell_far (p := ⟨gb204, _, none⟩) NB202_204.out _).trans (((cell_far (p := ⟨gb204, _, none⟩) NB202_204.out _).trans (((cell_far (p := ⟨gb204, _, none⟩) NB202_204.out _).trans (((cell_far (p := ⟨gb204, _, none⟩) NB202_204.out _).trans (((cell_far (p := ⟨gb204, _, none⟩) NB202_204.out _).trans (hHeld.2.2.2.2.2.1)))))))))), ((cell_far (p := ⟨gb204, _, none⟩) NB202_204.out _).trans (((cell_far (p := ⟨gb204, _, none⟩) NB202_204.out _).trans (((cell_far (p := ⟨gb204, _, none⟩) NB202_204.out _).trans (((cell_far (p := ⟨gb204, _, none⟩) NB202_204.out _).trans (((cell_far (p := ⟨gb204, _, none⟩) NB202_204.out _).trans (hHeld.2.2.2.2.2.2.1)))))))))), ((cell_far (p := ⟨gb204, _, none⟩) NB202_204.out _).trans (((cell_far (p := ⟨gb204, _, none⟩) NB202_204.out _).trans (((cell_far (p := ⟨gb204, _, none⟩) NB202_204.out _).trans (((cell_far (p := ⟨gb204, _, none⟩) NB202_204.out _).trans (((cell_far (p := ⟨gb204, _, none⟩) NB202_204.out _).trans (hHeld.2.2.2.2.2.2.2.1)))))))))), ((cell_far (p := ⟨gb204, _, none⟩) NB202_204.out _).trans (((cell_far (p := ⟨gb204, _, none⟩) NB202_204.out _).trans (((cell_far (p := ⟨gb204, _, none⟩) NB202_204.out _).trans (((cell_far (p := ⟨gb204, _, none⟩) NB202_204.out _).trans (((cell_far (p := ⟨gb204, _, none⟩) NB202_204.out _).trans (hHeld.2.2.2.2.2.2.2.2.1)))))))))), ((cell_far (p := ⟨gb204, _, none⟩) NB202_204.out _).trans (((cell_far (p := ⟨gb204, _, none⟩) NB202_204.out _).trans (((cell_far (p := ⟨gb204, _, none⟩) NB202_204.out _).trans (((cell_far (p := ⟨gb204, _, none⟩) NB202_204.out _).trans (((cell_far (p := ⟨gb204, _, none⟩) NB202_204.out _).trans (hHeld.2.2.2.2.2.2.2.2.2))))))))))⟩ (fun hHeld => ?_)
       clear hK K
       refine pure_ (i := 21) (N := some 10) (v := ?_) (a' := ?_) #[true, true, true, true, true, true, true, true, true, true, true, true, true, true, true, true, true, true, true, true, true, true] rfl rfl (any_of HT_.out (by kernel_rfl)) (fun _ _ _ h => h) (Or.inl ⟨by rfl, ?_⟩) ?_ ?_
       rotate_left
       ·intro w'
        go_simp
        with_reducible rfl
       rotate_left
       ·simp only [Act.put, List.setIfInBounds_toArray, List.set_cons_zero, List.set_cons_succ, i64_w, i32_w]
        rfl
       refine done_ (done_of HT_.out (by kernel_rfl)) ?_
       try go_wp2
       refine bodyPost_ret (results_list (rs := [.cell 8 30, .cell 9 30, .tmp 10]) rfl (by simp) (.cell gb203 30 #[.int .i64 t210, .int .i64 t211, .int .i64 t212, .slice Ao54 t213.length co54, .slice Ao55 t216.length co55] (0, 0) _ rfl (bp_ BK203.out) Try.underlying30 rfl (by kernel_rfl) (.cell gb204 30 #[.int .i64 a2, .int .i64 a3, .int .i64 (wrap64 (t212 - a1_2)), .slice Ao117 t221.length co117, .slice Ao116 t224.length co116] (0, 0) _ rfl (bp_ BK204.out) Try.underlying30 rfl (by kernel_rfl) (.tmp .nil)))) rfl ?_
       exact ⟨_, _, _, _, se_, by refine kr_ ?_; exact Kd.R_mono (Kd.R_far (p := ⟨gb204, 4, none⟩) (Kd.R_far (p := ⟨gb204, 3, none⟩) (Kd.R_far (p := ⟨gb204, 2, none⟩) (Kd.R_far (p := ⟨gb204, 1, none⟩) (Kd.R_far (p := ⟨gb204, 0, none⟩) (Kd.R_far (p := ⟨gb203, 4, none⟩) (Kd.R_far (p := ⟨gb203, 3, none⟩) (Kd.R_far (p := ⟨gb203, 2, none⟩) (Kd.R_far (p := ⟨gb203, 1, none⟩) (Kd.R_far (p := ⟨gb203, 0, none⟩) (Kd.R_types (Kd.R_types HO_221003.out BK203.out (by decide)) BK204.out (by decide)) (fun _ hk => hk.1.2) (.int .i64 t210)) (fun _ hk => hk.1.2) (.int .i64 t211)) (fun _ hk => hk.1.2) (.int .i64 t212)) (fun _ hk => hk.1.2) (.slice Ao54 t213.length co54)) (fun _ hk => hk.1.2) (.slice Ao55 t216.length co55)) (fun _ hk => hk.2) (.int .i64 a2)) (fun _ hk => hk.2) (.int .i64 a3)) (fun _ hk => hk.2) (.int .i64 (wrap64 (t212 - a1_2)))) (fun _ hk => hk.2) (.slice Ao117 t221.length co117)) (fun _ hk => hk.2) (.slice Ao116 t224.length co116)) (fun _ hk => ⟨hk.1.1.1.1, ⟨hk.1.1.1.2, hk.1.1.2⟩⟩), by refine kr_ ?_; exact Kd.R_mono (Kd.R_far (p := ⟨gb204, 4, none⟩) (Kd.R_far (p := ⟨gb204, 3, none⟩) (Kd.R_far (p := ⟨gb204, 2, none⟩) (Kd.R_far (p := ⟨gb204, 1, none⟩) (Kd.R_far (p := ⟨gb204, 0, none⟩) (Kd.R_far (p := ⟨gb203, 4, none⟩) (Kd.R_far (p := ⟨gb203, 3, none⟩) (Kd.R_far (p := ⟨gb203, 2, none⟩) (Kd.R_far (p := ⟨gb203, 1, none⟩) (Kd.R_far (p := ⟨gb203, 0, none⟩) (Kd.R_types (Kd.R_types HO_221004.out BK203.out (by decide)) BK204.out (by decide)) (fun _ hk => hk.1.2) (.int .i64 t210)) (fun _ hk => hk.1.2) (.int .i64 t211)) (fun _ hk => hk.1.2) (.int .i64 t212)) (fun _ hk => hk.1.2) (.slice Ao54 t213.length co54)) (fun _ hk => hk.1.2) (.slice Ao55 t216.length co55)) (fun _ hk => hk.2) (.int .i64 a2)) (fun _ hk => hk.2) (.int .i64 a3)) (fun _ hk => hk.2) (.int .i64 (wrap64 (t212 - a1_2)))) (fun _ hk => hk.2) (.slice Ao117 t221.length co117)) (fun _ hk => hk.2) (.slice Ao116 t224.length co116)) (fun _ hk => ⟨hk.1.1.1.1, ⟨hk.1.1.1.2, hk.1.1.2⟩⟩), by refine kr_ ?_; exact Kd.R_mono (Kd.R_far (p := ⟨gb204, 4, none⟩) (Kd.R_far (p := ⟨gb204, 3, none⟩) (Kd.R_far (p := ⟨gb204, 2, none⟩) (Kd.R_far (p := ⟨gb204, 1, none⟩) (Kd.R_far (p := ⟨gb204, 0, none⟩) (Kd.R_far (p := ⟨gb203, 4, none⟩) (Kd.R_far (p := ⟨gb203, 3, none⟩) (Kd.R_far (p := ⟨gb203, 2, none⟩) (Kd.R_far (p := ⟨gb203, 1, none⟩) (Kd.R_far (p := ⟨gb203, 0, none⟩) (Kd.R_types (Kd.R_types HO223.out BK203.out (by decide)) BK204.out (by decide)) (fun _ hk => hk.1.2) (.int .i64 t210)) (fun _ hk => hk.1.2) (.int .i64 t211)) (fun _ hk => hk.1.2) (.int .i64 t212)) (fun _ hk => hk.1.2) (.slice Ao54 t213.length co54)) (fun _ hk => hk.1.2) (.slice Ao55 t216.length co55)) (fun _ hk => hk.2) (.int .i64 a2)) (fun _ hk => hk.2) (.int .i64 a3)) (fun _ hk => hk.2) (.int .i64 (wrap64 (t212 - a1_2)))) (fun _ hk => hk.2) (.slice Ao117 t221.length co117)) (fun _ hk => hk.2) (.slice Ao116 t224.length co116)) (fun _ hk => ⟨hk.1.1.1.1.2, ⟨hk.1.1.1.2, hk.1.1.2⟩⟩), by refine kr_ ?_; exact Kd.R_mono (Kd.R_far (p := ⟨gb204, 4, none⟩) (Kd.R_far (p := ⟨gb204, 3, none⟩) (Kd.R_far (p := ⟨gb204, 2, none⟩) (Kd.R_far (p := ⟨gb204, 1, none⟩) (Kd.R_far (p := ⟨gb204, 0, none⟩) (Kd.R_far (p := ⟨gb203, 4, none⟩) (Kd.R_far (p := ⟨gb203, 3, none⟩) (Kd.R_far (p := ⟨gb203, 2, none⟩) (Kd.R_far (p := ⟨gb203, 1, none⟩) (Kd.R_far (p := ⟨gb203, 0, none⟩) (Kd.R_types (Kd.R_types HO226.out BK203.out (by decide)) BK204.out (by decide)) (fun _ hk => hk.1.2) (.int .i64 t210)) (fun _ hk => hk.1.2) (.int .i64 t211)) (fun _ hk => hk.1.2) (.int .i64 t212)) (fun _ hk => hk.1.2) (.slice Ao54 t213.length co54)) (fun _ hk => hk.1.2) (.slice Ao55 t216.length co55)) (fun _ hk => hk.2) (.int .i64 a2)) (fun _ hk => hk.2) (.int .i64 a3)) (fun _ hk => hk.2) (.int .i64 (wrap64 (t212 - a1_2)))) (fun _ hk => hk.2) (.slice Ao117 t221.length co117)) (fun _ hk => hk.2) (.slice Ao116 t224.length co116)) (fun _ hk => ⟨hk.1.1.1.1.2, ⟨hk.1.1.1.2, hk.1.1.2⟩⟩), bl_⟩
   ·rw [if_neg c28] at H
    have c28b0 : (t219 == 0) = false := beq_eq_false_iff_ne.mpr c28
    have c28b1 : (t219 != 0) = true := bne_iff_ne.mpr c28
    simp only [Option.some.injEq, Prod.mk.injEq] at H
    obtain ⟨rfl, rfl, rfl, rfl, rfl, rfl, rfl, rfl, rfl, rfl, rfl⟩ := H
    go_enter Try.func11, Try.ntmps11
    go_wp2_with (first | ((with_reducible refine gate_dst (N := 4) rfl ?_); (try (refine gate_guard (by rfl) ?_; dsimp only)); refine bx_ 4 #[.slice A0_0 l0_0.length c0_0, .slice A0_1 l0_1.length c0_1] 25 ?_; intro gb201 hg w128 hbox hb; have BK201 := Aside0.mk hbox; have GW201 := gs_ hg; have GE201 := gs_ hg; replace HB := hs_ hb; clear hb hbox hg) | ((with_reducible refine gate_dst (N := 5) rfl ?_); (try (refine gate_guard (by rfl) ?_; dsimp only)); refine bx_ 5 #[.int .i64 a1_0, .int .i64 a1_1, .int .i64 a1_2, .slice A1_3 l1_3.length c1_3, .slice A1_4 l1_4.length c1_4] 30 ?_; intro gb202 hg w129 hbox hb; have BK202 := Aside0.mk hbox; have GW202 := gs_ hg; have GE202 := gs_ hg; have NB201_202 := nl_ hg BK201.out; have NB202_201 := ng_ hg BK201.out; replace BK201 := bb_ BK201.out hb; replace HB := hs_ hb; clear hb hbox hg) | ((with_reducible refine gate_dst (N := 8) rfl ?_); (try (refine gate_guard (by rfl) ?_; dsimp only)); refine bx_ 8 #[.int .i64 0, .int .i64 0, .int .i64 0, .slice none 0 0, .slice none 0 0] 30 ?_; intro gb203 hg w130 hbox hb; have BK203 := Aside0.mk hbox; have GW203 := gs_ hg; have GE203 := gs_ hg; have NB201_203 := nl_ hg BK201.out; have NB203_201 := ng_ hg BK201.out; have NB202_203 := nl_ hg BK202.out; have NB203_202 := ng_ hg BK202.out; replace BK201 := bb_ BK201.out hb; replace BK202 := bb_ BK202.out hb; replace HB := hs_ hb; clear hb hbox hg) | ((with_reducible refine gate_dst (N := 9) rfl ?_); (try (refine gate_guard (by rfl) ?_; dsimp only)); refine bx_ 9 #[.int .i64 0, .int .i64 0, .int .i64 0, .slice none 0 0, .slice none 0 0] 30 ?_; intro gb204 hg w131 hbox hb; have BK204 := Aside0.mk hbox; have GW204 := gs_ hg; have GE204 := gs_ hg; have NB201_204 := nl_ hg BK201.out; have NB204_201 := ng_ hg BK201.out; have NB202_204 := nl_ hg BK202.out; have NB204_202 := ng_ hg BK202.out; have NB203_204 := nl_ hg BK203.out; have NB204_203 := ng_ hg BK203.out; replace BK201 := bb_ BK201.out hb; replace BK202 := bb_ BK202.out hb; replace BK203 := bb_ BK203.out hb; replace HB := hs_ hb; clear hb hbox hg; have hnb132 := NB201_202.out; have hnc132 := NB202_201.out; have hnb133 := NB201_203.out; have hnc133 := NB203_201.out; have hnb134 := NB201_204.out; have hnc134 := NB204_201.out; obtain ⟨hcz135_0, hcz135_1, hfz135_0, hfz135_1⟩ := c2_ BK201.out) | ((with_reducible refine gate_callee (f := 12) rfl ?_); refine goesL_ (some 15) rfl rfl Try.func12 (by kernel_rfl) rfl #[.agg #[.slice A0_0 l0_0.length c0_0, .slice A0_1 l0_1.length c0_1]] rfl ga_ ?_; (with_reducible refine (withhold_Right.calls k _ _ l0_0 _ _ l0_1 true _ ?side1 ?side2 ?side3 ?side4 A5.out).mono ?_); (case side1 => exact kc_ (Kd.C_below HR0_0.out HB.out)); (case side2 => exact HC0_0.out); (case side3 => exact kc_ (Kd.C_below HR0_1.out HB.out)); (case side4 => exact HC0_1.out); rintro e w136 ⟨rfl, hb⟩; refine ⟨_, rfl, ?_⟩; replace BK201 := bb_ BK201.out hb; replace BK202 := bb_ BK202.out hb; replace BK203 := bb_ BK203.out hb; replace BK204 := bb_ BK204.out hb; replace HB := hs_ hb; (try clear hb); (try clear hb2); (try clear hk); (try clear hi); have hnb137 := NB202_203.out; have hnc137 := NB203_202.out; have hnb138 := NB202_204.out; have hnc138 := NB204_202.out; obtain ⟨hcz139_0, hcz139_1, hcz139_2, hcz139_3, hcz139_4, hfz139_0, hfz139_1, hfz139_2, hfz139_3, hfz139_4⟩ := c5_ BK202.out) | ((with_reducible refine gate_dst (N := 26) rfl ?_); (try (refine gate_guard (by rfl) ?_; dsimp only)); refine Kd.R_lit (Kd.int .i64) _ 3 ?hg (N := 26) ?hd (xs := ([a1_0, a2, a1_1, a3] : List Int)) (inner := [.int .i64 a1_0, .int .i64 a2, .int .i64 a1_1, .int .i64 a3]) (ok := fun _ => True) (okp := fun _ => True) ?hr ?hp (fun _ hk => hk) trivial (Below.refl _ _) (Nat.le_refl _) (by simp) ?_; (case hd => rfl); (case hg => rfl); (case hr => first | (go_simp; done) | (go_simp; rfl)); (case hp => exact (Reps.one (show Kd.M (Kd.int .i64) _ _ _ a1_0 [.int .i64 a1_0] from rfl) (Reps.one (show Kd.M (Kd.int .i64) _ _ _ a2 [.int .i64 a2] from rfl) (Reps.one (show Kd.M (Kd.int .i64) _ _ _ a1_1 [.int .i64 a1_1] from rfl) (Reps.one (show Kd.M (Kd.int .i64) _ _ _ a3 [.int .i64 a3] from rfl) (Reps.none _ _)))))); intro v207 w140 ho141 hb hg_ hnew_; clear hg_ hnew_; (first | rw [← Ny206.out] at ho141 | (simp only [Int.reduceToNat] at ho141; rw [← Ny206.out] at ho141)); have HO208 := rl0_ ho141; replace BK201 := bb_ BK201.out hb; replace BK202 := bb_ BK202.out hb; replace BK203 := bb_ BK203.out hb; replace BK204 := bb_ BK204.out hb; replace HB := hs_ hb; clear hb ho141; obtain ⟨Ao142, co142, eo142⟩ := Kd.R_slice HO208.out; subst eo142) | ((with_reducible refine gate_callee (f := 20) rfl ?_); refine goesL_ (some 27) rfl rfl Try.func20 (by kernel_rfl) rfl #[.slice Ao142 y206.length co142] rfl ga_ ?_; (with_reducible refine (withhold_far.calls k _ _ y206 false _ ?side1 ?side2 A7.out).mono ?_); (case side1 => exact kc_ (Kd.R_reads' HO208.out).2.2); (case side2 => exact (Kd.R_reads' HO208.out).2.1); rintro e w' ⟨rfl, ⟨nd, rfl⟩⟩; refine ⟨_, rfl, ?_⟩; (try (rw [drewN_self w140]; generalize hq_ : World.drewN w140 _ = w140; replace HO208 := rk_ hq_ HO208.out; replace BK201 := rb_ hq_ BK201.out; replace BK202 := rb_ hq_ BK202.out; replace BK203 := rb_ hq_ BK203.out; replace BK204 := rb_ hq_ BK204.out; replace HB := rh_ hq_; clear hq_)); obtain ⟨hcz143_0, hcz143_1, hfz143_0, hfz143_1⟩ := c2_ BK201.out; obtain ⟨hcz144_0, hcz144_1, hcz144_2, hcz144_3, hcz144_4, hfz144_0, hfz144_1, hfz144_2, hfz144_3, hfz144_4⟩ := c5_ BK202.out) | ((with_reducible refine gate_callee (f := 14) rfl ?_); refine goesL_ (some 40) rfl rfl Try.func14 (by kernel_rfl) rfl #[.agg #[.slice A0_0 l0_0.length c0_0, .slice A0_1 l0_1.length c0_1], .int .i64 (wrap64 (a1_0 + a2)), .int .i64 (wrap64 (a1_1 + a3))] rfl ga_ ?_; (with_reducible refine (withhold_Due.calls k _ _ l0_0 _ _ l0_1 (wrap64 (a1_0 + a2)) (wrap64 (a1_1 + a3)) t210 t211 t212 t213 t216 t219 _ ?side1 ?side2 ?side3 ?side4 A27.out).mono ?_); (case side1 => exact kc_ (Kd.C_below HR0_0.out HB.out)); (case side2 => exact HC0_0.out); (case side3 => exact kc_ (Kd.C_below HR0_1.out HB.out)); (case side4 => exact HC0_1.out); rintro e w145 ⟨v214, v217, rfl, ho0, ho1, hb⟩; refine ⟨_, rfl, ?_⟩; have HO215 := rl0_ (rn_ ho0 HO208.out); have HO218 := rl0_ (rn_ ho1 HO208.out); replace HO208 := ro2_ HO208.out hb ho0 ho1; replace BK201 := bb_ BK201.out hb; replace BK202 := bb_ BK202.out hb; replace BK203 := bb_ BK203.out hb; replace BK204 := bb_ BK204.out hb; replace HB := hs_ hb; (try clear hb); (try clear hb2); (try clear hk); (try clear hi); (try clear ho0); (try clear ho1)) | ((with_reducible refine gate_dst (N := 11) rfl ?_); (try (refine gate_guard (by rfl) ?_; dsimp only)); refine bx_ 11 #[.int .i64 0, .int .i64 0, .int .i64 0, .slice none 0 0, .slice none 0 0] 30 ?_; intro gb220 hg w146 hbox hb; have BK220 := Aside0.mk hbox; have GW220 := gs_ hg; have GE220 := gs_ hg; have NB201_220 := nl_ hg BK201.out; have NB220_201 := ng_ hg BK201.out; have NB202_220 := nl_ hg BK202.out; have NB220_202 := ng_ hg BK202.out; have NB203_220 := nl_ hg BK203.out; have NB220_203 := ng_ hg BK203.out; have NB204_220 := nl_ hg BK204.out; have NB220_204 := ng_ hg BK204.out; replace HO208 := rl_ HO208.out hb; replace HO215 := rl_ HO215.out hb; replace HO218 := rl_ HO218.out hb; replace BK201 := bb_ BK201.out hb; replace BK202 := bb_ BK202.out hb; replace BK203 := bb_ BK203.out hb; replace BK204 := bb_ BK204.out hb; replace HB := hs_ hb; clear hb hbox hg; have hnb147 := NB220_201.out; have hnc147 := NB201_220.out; have hnb148 := NB220_202.out; have hnc148 := NB202_220.out; have hnb149 := NB220_203.out; have hnc149 := NB203_220.out; have hnb150 := NB220_204.out; have hnc150 := NB204_220.out; obtain ⟨hcz151_0, hcz151_1, hcz151_2, hcz151_3, hcz151_4, hfz151_0, hfz151_1, hfz151_2, hfz151_3, hfz151_4⟩ := c5_ BK220.out; obtain ⟨Ao152, co152, eo152⟩ := Kd.R_slice HO215.out; subst eo152; obtain ⟨Ao153, co153, eo153⟩ := Kd.R_slice HO218.out; subst eo153; have hnb154 := NB203_204.out; have hnc154 := NB204_203.out; obtain ⟨hcz155_0, hcz155_1, hcz155_2, hcz155_3, hcz155_4, hfz155_0, hfz155_1, hfz155_2, hfz155_3, hfz155_4⟩ := c5_ BK203.out; obtain ⟨hcz156_0, hcz156_1, hcz156_2, hcz156_3, hcz156_4, hfz156_0, hfz156_1, hfz156_2, hfz156_3, hfz156_4⟩ := c5_ BK204.out))
    refine bodyPost_ret (results_list (rs := [.cell 8 30, .cell 9 30, .tmp 10]) rfl (by simp) (.cell gb203 30 #[.int .i64 0, .int .i64 0, .int .i64 0, .slice none 0 0, .slice none 0 0] (0, 0) _ rfl (bp_ BK203.out) Try.underlying30 rfl (by kernel_rfl) (.cell gb204 30 #[.int .i64 0, .int .i64 0, .int .i64 0, .slice none 0 0, .slice none 0 0] (0, 0) _ rfl (bp_ BK204.out) Try.underlying30 rfl (by kernel_rfl) (.tmp .nil)))) rfl ?_
    exact ⟨_, _, _, _, se_, kn_, kn_, kn_, kn_, bl_⟩
 ·replace c6 := Bool.eq_false_iff.mpr c6
  subst c6
  rw [if_neg (show ¬ (false = true) by decide)] at H
  simp only [Option.some.injEq, Prod.mk.injEq] at H
  obtain ⟨rfl, rfl, rfl, rfl, rfl, rfl, rfl, rfl, rfl, rfl, rfl⟩ := H
  go_enter Try.func11, Try.ntmps11
  go_wp2_with (first | ((with_reducible refine gate_dst (N := 4) rfl ?_); (try (refine gate_guard (by rfl) ?_; dsimp only)); refine bx_ 4 #[.slice A0_0 l0_0.length c0_0, .slice A0_1 l0_1.length c0_1] 25 ?_; intro gb201 hg w157 hbox hb; have BK201 := Aside0.mk hbox; have GW201 := gs_ hg; have GE201 := gs_ hg; replace HB := hs_ hb; clear hb hbox hg) | ((with_reducible refine gate_dst (N := 5) rfl ?_); (try (refine gate_guard (by rfl) ?_; dsimp only)); refine bx_ 5 #[.int .i64 a1_0, .int .i64 a1_1, .int .i64 a1_2, .slice A1_3 l1_3.length c1_3, .slice A1_4 l1_4.length c1_4] 30 ?_; intro gb202 hg w158 hbox hb; have BK202 := Aside0.mk hbox; have GW202 := gs_ hg; have GE202 := gs_ hg; have NB201_202 := nl_ hg BK201.out; have NB202_201 := ng_ hg BK201.out; replace BK201 := bb_ BK201.out hb; replace HB := hs_ hb; clear hb hbox hg) | ((with_reducible refine gate_dst (N := 8) rfl ?_); (try (refine gate_guard (by rfl) ?_; dsimp only)); refine bx_ 8 #[.int .i64 0, .int .i64 0, .int .i64 0, .slice none 0 0, .slice none 0 0] 30 ?_; intro gb203 hg w159 hbox hb; have BK203 := Aside0.mk hbox; have GW203 := gs_ hg; have GE203 := gs_ hg; have NB201_203 := nl_ hg BK201.out; have NB203_201 := ng_ hg BK201.out; have NB202_203 := nl_ hg BK202.out; have NB203_202 := ng_ hg BK202.out; replace BK201 := bb_ BK201.out hb; replace BK202 := bb_ BK202.out hb; replace HB := hs_ hb; clear hb hbox hg) | ((with_reducible refine gate_dst (N := 9) rfl ?_); (try (refine gate_guard (by rfl) ?_; dsimp only)); refine bx_ 9 #[.int .i64 0, .int .i64 0, .int .i64 0, .slice none 0 0, .slice none 0 0] 30 ?_; intro gb204 hg w160 hbox hb; have BK204 := Aside0.mk hbox; have GW204 := gs_ hg; have GE204 := gs_ hg; have NB201_204 := nl_ hg BK201.out; have NB204_201 := ng_ hg BK201.out; have NB202_204 := nl_ hg BK202.out; have NB204_202 := ng_ hg BK202.out; have NB203_204 := nl_ hg BK203.out; have NB204_203 := ng_ hg BK203.out; replace BK201 := bb_ BK201.out hb; replace BK202 := bb_ BK202.out hb; replace BK203 := bb_ BK203.out hb; replace HB := hs_ hb; clear hb hbox hg; have hnb161 := NB201_202.out; have hnc161 := NB202_201.out; have hnb162 := NB201_203.out; have hnc162 := NB203_201.out; have hnb163 := NB201_204.out; have hnc163 := NB204_201.out; obtain ⟨hcz164_0, hcz164_1, hfz164_0, hfz164_1⟩ := c2_ BK201.out) | ((with_reducible refine gate_callee (f := 12) rfl ?_); refine goesL_ (some 15) rfl rfl Try.func12 (by kernel_rfl) rfl #[.agg #[.slice A0_0 l0_0.length c0_0, .slice A0_1 l0_1.length c0_1]] rfl ga_ ?_; (with_reducible refine (withhold_Right.calls k _ _ l0_0 _ _ l0_1 false _ ?side1 ?side2 ?side3 ?side4 A5.out).mono ?_); (case side1 => exact kc_ (Kd.C_below HR0_0.out HB.out)); (case side2 => exact HC0_0.out); (case side3 => exact kc_ (Kd.C_below HR0_1.out HB.out)); (case side4 => exact HC0_1.out); rintro e w165 ⟨rfl, hb⟩; refine ⟨_, rfl, ?_⟩; replace BK201 := bb_ BK201.out hb; replace BK202 := bb_ BK202.out hb; replace BK203 := bb_ BK203.out hb; replace BK204 := bb_ BK204.out hb; replace HB := hs_ hb; (try clear hb); (try clear hb2); (try clear hk); (try clear hi); have hnb166 := NB203_202.out; have hnc166 := NB202_203.out; have hnb167 := NB203_204.out; have hnc167 := NB204_203.out; obtain ⟨hcz168_0, hcz168_1, hcz168_2, hcz168_3, hcz168_4, hfz168_0, hfz168_1, hfz168_2, hfz168_3, hfz168_4⟩ := c5_ BK203.out; have hnb169 := NB204_202.out; have hnc169 := NB202_204.out; obtain ⟨hcz170_0, hcz170_1, hcz170_2, hcz170_3, hcz170_4, hfz170_0, hfz170_1, hfz170_2, hfz170_3, hfz170_4⟩ := c5_ BK204.out))
  refine bodyPost_ret (results_list (rs := [.cell 8 30, .cell 9 30, .tmp 10]) rfl (by simp) (.cell gb203 30 #[.int .i64 0, .int .i64 0, .int .i64 0, .slice none 0 0, .slice none 0 0] (0, 0) _ rfl (bp_ BK203.out) Try.underlying30 rfl (by kernel_rfl) (.cell gb204 30 #[.int .i64 0, .int .i64 0, .int .i64 0, .slice none 0 0, .slice none 0 0] (0, 0) _ rfl (bp_ BK204.out) Try.underlying30 rfl (by kernel_rfl) (.tmp .nil)))) rfl ?_
  exact ⟨_, _, _, _, se_, kn_, kn_, kn_, kn_, bl_⟩

end Go.Proofs.Ytocaneaofdbpoaa.PA
