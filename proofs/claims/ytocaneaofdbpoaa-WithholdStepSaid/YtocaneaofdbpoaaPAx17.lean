/- Contracts of the functions of the given program: written by wip/pmprint.py, a program of this session, which runs the print of the kit over altered functions. -/
import Derived.Test.YtocaneaofdbpoaaPAx0
import Derived.Test.YtocaneaofdbpoaaPAx16
namespace Go.Proofs.Ytocaneaofdbpoaa.PA
open Go.RowKit Go.Proofs.YtocaneaofdbpoaaW.PrintWords Go.Proofs.YtocaneaofdbpoaaW.PrintLast Go.Proofs.YtocaneaofdbpoaaW.PrintMore
attribute [local go_sem] max2_int min2_int max_two min_two max_three min_three max_four min_four   -- for this text's walks alone
set_option linter.unusedVariables false
set_option linter.unusedSimpArgs false

/-! ### paymasterref14_Due: function 18 -/
def paymasterref14_Due.l0 : Nat → Int → List (S68) → Int → Int → Int → Int → Int → List Int → List Int → Option (Int × Int × Int × List Int × List Int)
  | 0, _, _, _, _, _, _, _, _, _ => none
  | k + 1, x2, x18, x19, x20, x462000, x462001, x462002, x462003, x462004 => if x20 < x19 then (if 0 ≤ x20 then (if x20 < (x18.length : Int) then ((paymasterref14_part.f k x2 ((rd_T68 x18 x20).f0) ((rd_T68 x18 x20).f2)).bind fun t464 => (if x462003.length < 17592186044416 then ((paymasterref14_part.f k x2 ((rd_T68 x18 x20).f1) ((rd_T68 x18 x20).f2)).bind fun t468 => (if x462004.length < 17592186044416 then (paymasterref14_Due.l0 k x2 x18 x19 (wrap64 (x20 + 1)) x462000 x462001 x462002 (x462003 ++ [t464]) (x462004 ++ [t468])) else (none))) else (none))) else (none)) else (none)) else (some (x462000, x462001, x462002, x462003, x462004))
def paymasterref14_Due.f (k : Nat) (l0_0 : List (S58)) (l0_1 : List (S68)) (a1 : Int) (a2 : Int) : Option (Int × Int × Int × List Int × List Int) := (paymasterref05_Tax.f k l0_0 a1).bind fun t460 => (paymasterref14_Due.l0 k a2 l0_1 (l0_1.length : Int) 0 a1 a2 t460 ([] : List Int) ([] : List Int))
def paymasterref14_Due.T5 : Bool × List (List Nat × List Nat) := (true, [([], []), ([0], [0]), ([], []), ([], []), ([3], [3]), ([], []), ([5], [5]), ([2, 4, 6], [2, 4, 6]), ([7], [7]), ([1, 8, 7], [1, 8]), ([0, 1, 2, 3, 4, 5, 6, 7, 8, 9], []), ([10, 9, 9, 0, 1, 2, 3, 4, 5, 6, 7, 8, 9], [9, 10])])
def paymasterref14_Due.B5 : List Nat := [0, 1, 0, 0, 8, 0, 32, 124, 252, 511, 1023, 2047]
theorem paymasterref14_Due.tab5 : rtab .any (opsOf Try.f18 5) = paymasterref14_Due.T5 := by kernel_rfl
theorem paymasterref14_Due.bits5 : waitsOk paymasterref14_Due.T5.2 paymasterref14_Due.B5 = true := by kernel_rfl
def paymasterref14_Due.T6 : Bool × List (List Nat × List Nat) := (true, [([], []), ([0], [0]), ([], []), ([], []), ([3], [3]), ([], []), ([5], [5]), ([2, 4, 6], [2, 4, 6]), ([7], [7]), ([1, 8, 7], [1, 8]), ([0, 1, 2, 3, 4, 5, 6, 7, 8, 9], []), ([10, 9, 9, 0, 1, 2, 3, 4, 5, 6, 7, 8, 9], [9, 10])])
def paymasterref14_Due.B6 : List Nat := [0, 1, 0, 0, 8, 0, 32, 124, 252, 511, 1023, 2047]
theorem paymasterref14_Due.tab6 : rtab .any (opsOf Try.f18 6) = paymasterref14_Due.T6 := by kernel_rfl
theorem paymasterref14_Due.bits6 : waitsOk paymasterref14_Due.T6.2 paymasterref14_Due.B6 = true := by kernel_rfl
set_option maxHeartbeats 8000000 in
set_option maxRecDepth 100000 in
theorem paymasterref14_Due.calls (k : Nat) (A0_0 : Option Addr) (c0_0 : Nat) (l0_0 : List (S58)) (A0_1 : Option Addr) (c0_1 : Nat) (l0_1 : List (S68)) (a1 : Int) (a2 : Int) (r1 : Int) (r2 : Int) (r3 : Int) (r4 : List Int) (r5 : List Int) (w : World) (hr0_0 : Kd.C k58 w A0_0 l0_0.length l0_0) (hc0_0 : l0_0.length ≤ c0_0) (hr0_1 : Kd.C k68 w A0_1 l0_1.length l0_1) (hc0_1 : l0_1.length ≤ c0_1) (h : paymasterref14_Due.f k l0_0 l0_1 a1 a2 = some (r1, r2, r3, r4, r5)) :
    Calls Try.prog 18 #[.agg #[.slice A0_0 l0_0.length c0_0, .slice A0_1 l0_1.length c0_1], .int .i64 a1, .int .i64 a2] w fun e w' => ∃ v3_ v4_ : Value, e = .returned (.agg #[.int .i64 r1, .int .i64 r2, .int .i64 r3, v3_, v4_]) ∧ Kd.R (Kd.int .i64) 3 w' w.heap.size (fun k_ => some k_ ≠ (v4_ : Value).ownBlock) v3_ r4 ∧ Kd.R (Kd.int .i64) 3 w' w.heap.size (fun k_ => some k_ ≠ (v3_ : Value).ownBlock) v4_ r5 ∧ Below w.heap.size w w' := by
 have hu46 := Try.underlying46
 have hu35 := Try.underlying35
 have hu68 := Try.underlying68
 have HR0_0 := Aside0.mk hr0_0
 have HC0_0 := Aside0.mk hc0_0
 clear hr0_0 hc0_0
 have HR0_1 := Aside0.mk hr0_1
 have HC0_1 := Aside0.mk hc0_1
 clear hr0_1 hc0_1
 have HB := Aside0.mk (Below.refl w.heap.size w)
 have H : ((paymasterref05_Tax.f k l0_0 a1).bind fun t460 => (paymasterref14_Due.l0 k a2 l0_1 (l0_1.length : Int) 0 a1 a2 t460 ([] : List Int) ([] : List Int))) = some (r1, r2, r3, r4, r5) := h
 clear h
 replace H := Option.bind_eq_some_iff.mp H
 obtain ⟨t460, A40, H⟩ := H
 (try dsimp only at H)
 have A4 := Aside0.mk A40
 clear A40
 have H' := Aside0.mk H
 clear H
 go_enter Try.func18, Try.ntmps18
 go_wp2_with (first | ((with_reducible refine gate_dst (N := 3) rfl ?_); refine bx_ 3 #[.slice A0_0 l0_0.length c0_0, .slice A0_1 l0_1.length c0_1] 46 ?_; intro gb458 hg w5 hbox hb; have BK458 := Aside0.mk hbox; have GW458 := gs_ hg; have GE458 := gs_ hg; replace HB := hs_ hb; clear hb hbox hg) | ((with_reducible refine gate_dst (N := 6) rfl ?_); refine bx_ 6 #[.int .i64 0, .int .i64 0, .int .i64 0, .slice none 0 0, .slice none 0 0] 35 ?_; intro gb459 hg w6 hbox hb; have BK459 := Aside0.mk hbox; have GW459 := gs_ hg; have GE459 := gs_ hg; have NB458_459 := nl_ hg BK458.out; have NB459_458 := ng_ hg BK458.out; replace BK458 := bb_ BK458.out hb; replace HB := hs_ hb; clear hb hbox hg; have hnb7 := NB458_459.out; have hnc7 := NB459_458.out; obtain ⟨hcz8_0, hcz8_1, hfz8_0, hfz8_1⟩ := c2_ BK458.out) | ((with_reducible refine gate_callee (f := 29) rfl ?_); refine goesL_ (some 15) rfl rfl Try.func29 (by kernel_rfl) rfl #[.slice A0_0 l0_0.length c0_0, .int .i64 a1] rfl ga_ ?_; (with_reducible refine (paymasterref05_Tax.calls k _ _ l0_0 a1 t460 _ ?side1 ?side2 A4.out).mono ?_); (case side1 => exact kc_ (Kd.C_below HR0_0.out HB.out)); (case side2 => exact HC0_0.out); rintro e w9 ⟨rfl, hb⟩; refine ⟨_, rfl, ?_⟩; replace BK458 := bb_ BK458.out hb; replace BK459 := bb_ BK459.out hb; replace HB := hs_ hb; (try clear hb); (try clear hb2); (try clear hk); (try clear hi)) | ((with_reducible refine gate_dst (N := 7) rfl ?_); refine bx_ 7 #[.int .i64 0, .int .i64 0, .int .i64 0, .slice none 0 0, .slice none 0 0] 35 ?_; intro gb461 hg w10 hbox hb; have BK461 := Aside0.mk hbox; have GW461 := gs_ hg; have GE461 := gs_ hg; have NB458_461 := nl_ hg BK458.out; have NB461_458 := ng_ hg BK458.out; have NB459_461 := nl_ hg BK459.out; have NB461_459 := ng_ hg BK459.out; replace BK458 := bb_ BK458.out hb; replace BK459 := bb_ BK459.out hb; replace HB := hs_ hb; clear hb hbox hg; have hnb11 := NB461_458.out; have hnc11 := NB458_461.out; have hnb12 := NB461_459.out; have hnc12 := NB459_461.out; obtain ⟨hcz13_0, hcz13_1, hcz13_2, hcz13_3, hcz13_4, hfz13_0, hfz13_1, hfz13_2, hfz13_3, hfz13_4⟩ := c5_ BK461.out; obtain ⟨hcz14_0, hcz14_1, hfz14_0, hfz14_1⟩ := c2_ BK458.out))
 go_loopg [20] k (fun kq v20 w' => ∃ (x20_1 : Int) (x462003_1 : List Int) (x462004_1 : List Int) (u462003 : Value) (u462004 : Value), v20 = .int .i64 x20_1 ∧ Aside0 (paymasterref14_Due.l0 kq a2 l0_1 (l0_1.length : Int) x20_1 a1 a2 t460 x462003_1 x462004_1 = some (r1, r2, r3, r4, r5)) ∧ Aside0 (kq ≤ k) ∧ Aside0 (Kd.R (Kd.int .i64) 3 w' w.heap.size (fun k_ => some k_ ≠ (u462004 : Value).ownBlock) u462003 x462003_1) ∧ Aside0 (Kd.R (Kd.int .i64) 3 w' w.heap.size (fun k_ => some k_ ≠ (u462003 : Value).ownBlock) u462004 x462004_1) ∧ Aside0 (w'.heap[gb458]? = some (.cells #[(.slice A0_0 l0_0.length c0_0), (.slice A0_1 l0_1.length c0_1)] 46 (0, 0))) ∧ Aside0 (w'.heap[gb459]? = some (.cells #[.int .i64 0, .int .i64 0, .int .i64 0, (.slice none 0 0), (.slice none 0 0)] 35 (0, 0))) ∧ Aside0 (w'.heap[gb461]? = some (.cells #[.int .i64 a1, .int .i64 a2, .int .i64 t460, u462003, u462004] 35 (0, 0))) ∧ Aside0 (Below w.heap.size w w'))
 case atStart => exact ⟨(0), (([] : List Int)), (([] : List Int)), (.slice none 0 0), (.slice none 0 0), sm_, H', ⟨Nat.le_refl _⟩, ⟨kn_⟩, ⟨kn_⟩, ⟨bf_ BK458.out⟩, ⟨bf_ BK459.out⟩, ⟨bp_ BK461.out⟩, ⟨bl_⟩⟩
 case round =>
  clear H'
  try clear hcz13_0; try clear hcz13_1; try clear hcz13_2; try clear hcz13_3; try clear hcz13_4; try clear hcz14_0; try clear hcz14_1; try clear hcz8_0; try clear hcz8_1; try clear hfz13_0; try clear hfz13_1; try clear hfz13_2; try clear hfz13_3; try clear hfz13_4; try clear hfz14_0; try clear hfz14_1; try clear hfz8_0; try clear hfz8_1
  obtain ⟨x20_1, x462003_1, x462004_1, u462003, u462004, rfl, HA, HK1, HO_462003, HO_462004, BK458, BK459, BK461, HB⟩ := hrel
  cases gk with
  | zero => exact absurd HA.out (by simp [paymasterref14_Due.l0])
  | succ k1 =>
   have H := HA.out
   clear HA
   simp only [paymasterref14_Due.l0] at H
   by_cases c15 : x20_1 < (l0_1.length : Int)
   ·rw [if_pos c15] at H
    have c15b0 : decide (x20_1 < (l0_1.length : Int)) = true := decide_eq_true c15
    clear c15
    by_cases c16 : 0 ≤ x20_1
    ·rw [if_pos c16] at H
     have c16b0 : decide (0 ≤ x20_1) = true := decide_eq_true c16
     clear c16
     by_cases c17 : x20_1 < (l0_1.length : Int)
     ·rw [if_pos c17] at H
      have c17b0 : decide (x20_1 < (l0_1.length : Int)) = true := decide_eq_true c17
      clear c17
      replace H := Option.bind_eq_some_iff.mp H
      obtain ⟨t464, A180, H⟩ := H
      (try dsimp only at H)
      have A18 := Aside0.mk A180
      clear A180
      by_cases c19 : x462003_1.length < 17592186044416
      ·rw [if_pos c19] at H
       have LMc19 := Aside0.mk c19
       clear c19
       obtain ⟨y465, hy465⟩ : ∃ y_ : List Int, y_ = (x462003_1 ++ [t464]) := ⟨_, rfl⟩
       replace H : ((paymasterref14_part.f k1 a2 ((rd_T68 l0_1 x20_1).f1) ((rd_T68 l0_1 x20_1).f2)).bind fun t468 => (if x462004_1.length < 17592186044416 then (paymasterref14_Due.l0 k1 a2 l0_1 (l0_1.length : Int) (wrap64 (x20_1 + 1)) a1 a2 t460 y465 (x462004_1 ++ [t468])) else (none))) = some (r1, r2, r3, r4, r5) := by first | (rw [hy465]; with_reducible exact H) | (have H2_ := (Option.bind_some _ _).symm.trans H; rw [hy465]; with_reducible exact H2_) | (have H2_ := (Option.bind_some _ _).symm.trans H; with_reducible exact H2_) | with_reducible exact H | (rw [hy465]; exact H) | exact H
       have Ny465 := Aside0.mk hy465
       clear hy465
       replace H := Option.bind_eq_some_iff.mp H
       obtain ⟨t468, A200, H⟩ := H
       (try dsimp only at H)
       have A20 := Aside0.mk A200
       clear A200
       by_cases c21 : x462004_1.length < 17592186044416
       ·rw [if_pos c21] at H
        have LMc21 := Aside0.mk c21
        clear c21
        obtain ⟨y469, hy469⟩ : ∃ y_ : List Int, y_ = (x462004_1 ++ [t468]) := ⟨_, rfl⟩
        replace H : (paymasterref14_Due.l0 k1 a2 l0_1 (l0_1.length : Int) (wrap64 (x20_1 + 1)) a1 a2 t460 y465 y469) = some (r1, r2, r3, r4, r5) := by first | (rw [hy469]; with_reducible exact H) | (have H2_ := (Option.bind_some _ _).symm.trans H; rw [hy469]; with_reducible exact H2_) | (have H2_ := (Option.bind_some _ _).symm.trans H; with_reducible exact H2_) | with_reducible exact H | (rw [hy469]; exact H) | exact H
        have Ny469 := Aside0.mk hy469
        clear hy469
        have H' := Aside0.mk H
        clear H
        have p462 : 0 ≤ (x20_1 : Int) := od_
        have q462 : x20_1 < (l0_1.length : Int) := od_
        obtain ⟨ad462, e462, hx462_0, hx462_1, hx462_2⟩ := at_T68 HR0_1.out x20_1 p462 q462
        cases e462
        replace hx462_0 := (HB.out.cell (World.block_lt_of_cell? w _ hx462_0)).trans hx462_0
        replace hx462_1 := (HB.out.cell (World.block_lt_of_cell? w _ hx462_1)).trans hx462_1
        replace hx462_2 := (HB.out.cell (World.block_lt_of_cell? w _ hx462_2)).trans hx462_2
        replace p462 := eq_true p462
        replace q462 := eq_true q462
        try go_wp2_with (first | ((with_reducible refine gate_dst (N := 9) rfl ?_); refine bx_ 9 #[.int .i64 0, .int .i64 0, .int .i64 0] 68 ?_; intro gb463 hg w22 hbox hb; have BK463 := Aside0.mk hbox; have GW463 := gs_ hg; have GE463 := gs_ hg; have NB458_463 := nl_ hg BK458.out; have NB463_458 := ng_ hg BK458.out; have NB459_463 := nl_ hg BK459.out; have NB463_459 := ng_ hg BK459.out; have NB461_463 := nl_ hg BK461.out; have NB463_461 := ng_ hg BK461.out; replace HO_462003 := rl_ HO_462003.out hb; replace HO_462004 := rl_ HO_462004.out hb; replace BK458 := bb_ BK458.out hb; replace BK459 := bb_ BK459.out hb; replace BK461 := bb_ BK461.out hb; replace HB := hs_ hb; clear hb hbox hg; have hnb23 := NB463_458.out; have hnc23 := NB458_463.out; have hnb24 := NB463_459.out; have hnc24 := NB459_463.out; have hnb25 := NB463_461.out; have hnc25 := NB461_463.out; obtain ⟨hcz26_0, hcz26_1, hcz26_2, hfz26_0, hfz26_1, hfz26_2⟩ := c3_ BK463.out))
        have n0_ : Aside0 (Kd.R (Kd.int .i64) 3 (((w22.setCell ⟨gb463, 0, none⟩ (.int .i64 ((rd_T68 l0_1 x20_1).f0))).setCell ⟨gb463, 1, none⟩ (.int .i64 ((rd_T68 l0_1 x20_1).f1))).setCell ⟨gb463, 2, none⟩ (.int .i64 ((rd_T68 l0_1 x20_1).f2))) w.heap.size (fun k_ => some k_ ≠ (u462004 : Value).ownBlock) u462003 x462003_1) := ⟨rs_ (ty_ HO_462003.out BK463.out)⟩
        have n1_ : Aside0 (Kd.R (Kd.int .i64) 3 (((w22.setCell ⟨gb463, 0, none⟩ (.int .i64 ((rd_T68 l0_1 x20_1).f0))).setCell ⟨gb463, 1, none⟩ (.int .i64 ((rd_T68 l0_1 x20_1).f1))).setCell ⟨gb463, 2, none⟩ (.int .i64 ((rd_T68 l0_1 x20_1).f2))) w.heap.size (fun k_ => some k_ ≠ (u462003 : Value).ownBlock) u462004 x462004_1) := ⟨rs_ (ty_ HO_462004.out BK463.out)⟩
        have n2_ : Aside0 ((((w22.setCell ⟨gb463, 0, none⟩ (.int .i64 ((rd_T68 l0_1 x20_1).f0))).setCell ⟨gb463, 1, none⟩ (.int .i64 ((rd_T68 l0_1 x20_1).f1))).setCell ⟨gb463, 2, none⟩ (.int .i64 ((rd_T68 l0_1 x20_1).f2))).heap[gb458]? = some (.cells #[.slice A0_0 l0_0.length c0_0, .slice (some ad462) l0_1.length c0_1] 46 (0, 0))) := ⟨bf_ BK458.out⟩
        have n3_ : Aside0 ((((w22.setCell ⟨gb463, 0, none⟩ (.int .i64 ((rd_T68 l0_1 x20_1).f0))).setCell ⟨gb463, 1, none⟩ (.int .i64 ((rd_T68 l0_1 x20_1).f1))).setCell ⟨gb463, 2, none⟩ (.int .i64 ((rd_T68 l0_1 x20_1).f2))).heap[gb459]? = some (.cells #[.int .i64 0, .int .i64 0, .int .i64 0, .slice none 0 0, .slice none 0 0] 35 (0, 0))) := ⟨bf_ BK459.out⟩
        have n4_ : Aside0 ((((w22.setCell ⟨gb463, 0, none⟩ (.int .i64 ((rd_T68 l0_1 x20_1).f0))).setCell ⟨gb463, 1, none⟩ (.int .i64 ((rd_T68 l0_1 x20_1).f1))).setCell ⟨gb463, 2, none⟩ (.int .i64 ((rd_T68 l0_1 x20_1).f2))).heap[gb461]? = some (.cells #[.int .i64 a1, .int .i64 a2, .int .i64 t460, u462003, u462004] 35 (0, 0))) := ⟨bf_ BK461.out⟩
        have n5_ : Aside0 ((((w22.setCell ⟨gb463, 0, none⟩ (.int .i64 ((rd_T68 l0_1 x20_1).f0))).setCell ⟨gb463, 1, none⟩ (.int .i64 ((rd_T68 l0_1 x20_1).f1))).setCell ⟨gb463, 2, none⟩ (.int .i64 ((rd_T68 l0_1 x20_1).f2))).heap[gb463]? = some (.cells #[.int .i64 ((rd_T68 l0_1 x20_1).f0), .int .i64 ((rd_T68 l0_1 x20_1).f1), .int .i64 ((rd_T68 l0_1 x20_1).f2)] 68 (0, 0))) := ⟨bp_ BK463.out⟩
        have n6_ : Aside0 (Below w.heap.size w (((w22.setCell ⟨gb463, 0, none⟩ (.int .i64 ((rd_T68 l0_1 x20_1).f0))).setCell ⟨gb463, 1, none⟩ (.int .i64 ((rd_T68 l0_1 x20_1).f1))).setCell ⟨gb463, 2, none⟩ (.int .i64 ((rd_T68 l0_1 x20_1).f2)))) := ⟨bl_⟩
        (try clear HO_462003)
        (try clear HO_462004)
        (try clear BK458)
        (try clear BK459)
        (try clear BK461)
        (try clear BK463)
        (try clear HB)
        generalize (((w22.setCell ⟨gb463, 0, none⟩ (.int .i64 ((rd_T68 l0_1 x20_1).f0))).setCell ⟨gb463, 1, none⟩ (.int .i64 ((rd_T68 l0_1 x20_1).f1))).setCell ⟨gb463, 2, none⟩ (.int .i64 ((rd_T68 l0_1 x20_1).f2))) = w27 at n0_ n1_ n2_ n3_ n4_ n5_ n6_ ⊢
        have HO_462003 := n0_
        have HO_462004 := n1_
        have BK458 := n2_
        have BK459 := n3_
        have BK461 := n4_
        have BK463 := n5_
        have HB := n6_
        clear n0_ n1_ n2_ n3_ n4_ n5_ n6_
        replace HO_462003 := Aside0.mk (Kd.R_drew HO_462003.out)
        replace HO_462004 := Aside0.mk (Kd.R_drew HO_462004.out)
        replace BK458 := Aside0.mk (blk_drew BK458.out)
        replace BK459 := Aside0.mk (blk_drew BK459.out)
        replace BK461 := Aside0.mk (blk_drew BK461.out)
        replace BK463 := Aside0.mk (blk_drew BK463.out)
        replace HB := Aside0.mk (below_drew1 HB.out)
        refine start_ (n := 12) (S := fun w' => w'.cell? ⟨gb461, 0, none⟩ = some (.int .i64 a1) ∧ w'.cell? ⟨gb461, 1, none⟩ = some (.int .i64 a2) ∧ w'.cell? ⟨gb461, 2, none⟩ = some (.int .i64 t460) ∧ w'.cell? ⟨gb461, 3, none⟩ = some (u462003) ∧ w'.cell? ⟨gb461, 4, none⟩ = some (u462004) ∧ w'.cell? ⟨gb463, 0, none⟩ = some (.int .i64 ((rd_T68 l0_1 x20_1).f0)) ∧ w'.cell? ⟨gb463, 1, none⟩ = some (.int .i64 ((rd_T68 l0_1 x20_1).f1)) ∧ w'.cell? ⟨gb463, 2, none⟩ = some (.int .i64 ((rd_T68 l0_1 x20_1).f2))) (ds := [11]) #[false, false, false, false, false, false, false, false, false, false, false, false] (by kernel_rfl) rfl rfl ⟨(blk_cell BK461.out 0).trans rfl, (blk_cell BK461.out 1).trans rfl, (blk_cell BK461.out 2).trans rfl, (blk_cell BK461.out 3).trans rfl, (blk_cell BK461.out 4).trans rfl, (blk_cell BK463.out 0).trans rfl, (blk_cell BK463.out 1).trans rfl, (blk_cell BK463.out 2).trans rfl⟩ (fun hHeld => ?_); refine with_tabW paymasterref14_Due.tab5 paymasterref14_Due.bits5 (fun HT_ HW_ => ?_)
        generalize w27.drew = w28 at HO_462003 HO_462004 BK458 BK459 BK461 BK463 HB hHeld ⊢
        refine pure_ (i := 0) (N := some 24) (v := ?_) (a' := ?_) #[true, false, false, false, false, false, false, false, false, false, false, false] rfl rfl (any_of HT_.out (by kernel_rfl)) (fun _ _ _ h => h) (Or.inl ⟨by rfl, ?_⟩) ?_ ?_
        rotate_left
        ·intro w'
         go_simp
         with_reducible rfl
        rotate_left
        ·simp only [Act.put, List.setIfInBounds_toArray, List.set_cons_zero, List.set_cons_succ, i64_w, i32_w]
         rfl
        refine pure_ (i := 2) (N := some 26) (v := ?_) (a' := ?_) #[true, false, true, false, false, false, false, false, false, false, false, false] rfl rfl (any_of HT_.out (by kernel_rfl)) (fun _ _ _ h => h) (Or.inl ⟨by rfl, ?_⟩) ?_ ?_
        rotate_left
        ·intro w'
         go_simp
         with_reducible rfl
        rotate_left
        ·simp only [Act.put, List.setIfInBounds_toArray, List.set_cons_zero, List.set_cons_succ, i64_w, i32_w]
         rfl
        refine pure_ (i := 3) (N := some 27) (v := ?_) (a' := ?_) #[true, false, true, true, false, false, false, false, false, false, false, false] rfl rfl (any_of HT_.out (by kernel_rfl)) (fun _ _ _ h => h) (Or.inl ⟨by rfl, ?_⟩) ?_ ?_
        rotate_left
        ·intro w'
         go_simp
         with_reducible rfl
        rotate_left
        ·simp only [Act.put, List.setIfInBounds_toArray, List.set_cons_zero, List.set_cons_succ, i64_w, i32_w]
         rfl
        refine pure_ (i := 5) (N := some 29) (v := ?_) (a' := ?_) #[true, false, true, true, false, true, false, false, false, false, false, false] rfl rfl (any_of HT_.out (by kernel_rfl)) (fun _ _ _ h => h) (Or.inl ⟨by rfl, ?_⟩) ?_ ?_
        rotate_left
        ·intro w'
         go_simp
         with_reducible rfl
        rotate_left
        ·simp only [Act.put, List.setIfInBounds_toArray, List.set_cons_zero, List.set_cons_succ, i64_w, i32_w]
         rfl
        refine take_ (i := 1) (N := some 25) (v := ?_) (a' := ?_) #[true, true, true, true, false, true, false, false, false, false, false, false] rfl rfl (take_ofW HT_.out HW_.out (by kernel_rfl)) (fun _ _ _ h => h) (Or.inl ⟨by rfl, ?_⟩) hHeld ?_ ?_
        rotate_left
        ·rintro w' ⟨s0, s1, s2, s3, s4, s5, s6, s7⟩
         go_simp
         with_reducible rfl
        rotate_left
        ·simp only [Act.put, List.setIfInBounds_toArray, List.set_cons_zero, List.set_cons_succ, i64_w, i32_w]
         rfl
        refine take_ (i := 4) (N := some 28) (v := ?_) (a' := ?_) #[true, true, true, true, true, true, false, false, false, false, false, false] rfl rfl (take_ofW HT_.out HW_.out (by kernel_rfl)) (fun _ _ _ h => h) (Or.inl ⟨by rfl, ?_⟩) hHeld ?_ ?_
        rotate_left
        ·rintro w' ⟨s0, s1, s2, s3, s4, s5, s6, s7⟩
         go_simp
         with_reducible rfl
        rotate_left
        ·simp only [Act.put, List.setIfInBounds_toArray, List.set_cons_zero, List.set_cons_succ, i64_w, i32_w]
         rfl
        refine take_ (i := 6) (N := some 30) (v := ?_) (a' := ?_) #[true, true, true, true, true, true, true, false, false, false, false, false] rfl rfl (take_ofW HT_.out HW_.out (by kernel_rfl)) (fun _ _ _ h => h) (Or.inl ⟨by rfl, ?_⟩) hHeld ?_ ?_
        rotate_left
        ·rintro w' ⟨s0, s1, s2, s3, s4, s5, s6, s7⟩
         go_simp
         with_reducible rfl
        rotate_left
        ·simp only [Act.put, List.setIfInBounds_toArray, List.set_cons_zero, List.set_cons_succ, i64_w, i32_w]
         rfl
        refine one_ (i := 7) (N := some 31) #[true, true, true, true, true, true, true, true, false, false, false, false] rfl rfl (one_of HT_.out (by kernel_rfl)) (by decide) (fun K hK => ?_)
        refine goes_ Try.func30 (by kernel_rfl) rfl #[.int .i64 a2, .int .i64 ((rd_T68 l0_1 x20_1).f0), .int .i64 ((rd_T68 l0_1 x20_1).f2)] (by rfl) rfl rfl ga_ ?_
        with_reducible refine (paymasterref14_part.calls k1 a2 ((rd_T68 l0_1 x20_1).f0) ((rd_T68 l0_1 x20_1).f2) t464 _ A18.out).mono ?_
        rintro e w29 ⟨rfl, hb⟩
        refine ⟨_, rfl, ?_⟩
        replace HO_462003 := rl_ HO_462003.out hb
        replace HO_462004 := rl_ HO_462004.out hb
        replace BK458 := bb_ BK458.out hb
        replace BK459 := bb_ BK459.out hb
        replace BK461 := bb_ BK461.out hb
        replace BK463 := bb_ BK463.out hb
        replace HB := hs_ hb
        (try clear hb)
        (try clear hb2)
        (try clear hk)
        (try clear hi)
        refine hK.out _ _ ⟨(blk_cell BK461.out 0).trans rfl, (blk_cell BK461.out 1).trans rfl, (blk_cell BK461.out 2).trans rfl, (blk_cell BK461.out 3).trans rfl, (blk_cell BK461.out 4).trans rfl, (blk_cell BK463.out 0).trans rfl, (blk_cell BK463.out 1).trans rfl, (blk_cell BK463.out 2).trans rfl⟩ (fun hHeld => ?_)
        clear hK K
        refine norm_ (a' := ?_) ?_ ?_
        rotate_left
        ·show Act.put _ (some 31) _ = _
         simp only [Act.put, List.setIfInBounds_toArray, List.set_cons_zero, List.set_cons_succ, i64_w, i32_w]
         rfl
        refine one_ (i := 8) (N := some 32) #[true, true, true, true, true, true, true, true, true, false, false, false] rfl rfl (one_of HT_.out (by kernel_rfl)) (by decide) (fun K hK => ?_)
        refine value_ (w1 := ?_) (v := ?_) (by rfl) rfl ?_ ?_
        rotate_left 2
        ·go_simp
         constructor
         ·rfl
         ·rfl
        refine hK.out _ _ ⟨(blk_cell (blk_alloc BK461.out _) 0).trans rfl, (blk_cell (blk_alloc BK461.out _) 1).trans rfl, (blk_cell (blk_alloc BK461.out _) 2).trans rfl, (blk_cell (blk_alloc BK461.out _) 3).trans rfl, (blk_cell (blk_alloc BK461.out _) 4).trans rfl, (blk_cell (blk_alloc BK463.out _) 0).trans rfl, (blk_cell (blk_alloc BK463.out _) 1).trans rfl, (blk_cell (blk_alloc BK463.out _) 2).trans rfl⟩ (fun hHeld => ?_)
        clear hK K
        refine norm_ (a' := ?_) ?_ ?_
        rotate_left
        ·show Act.put _ (some 32) _ = _
         simp only [Act.put, List.setIfInBounds_toArray, List.set_cons_zero, List.set_cons_succ, i64_w, i32_w]
         rfl
        refine one_ (i := 9) (N := some 33) #[true, true, true, true, true, true, true, true, true, true, false, false] rfl rfl (one_of HT_.out (by kernel_rfl)) (by decide) (fun K hK => ?_)
        refine Kd.R_append_step (Kd.int .i64) (w0 := w) w.heap.size (by rfl) (.tmp 25) (.tmp 32) 28 3 (.int .i64 0) 8 rfl Try.underlying28 info3 rfl (by decide) (by omega) u462003 x462003_1 t464 [.int .i64 t464] (fun k_ => some k_ ≠ (u462004 : Value).ownBlock) (fun _ => False) rfl rfl ?aP (fun _ hk => hk.elim) ?aF ?aO ?aB ?aS ?aL ?_
        (case aP => exact rfl)
        (case aB => exact bl_)
        (case aF => exact (fun k_ hk => fr_ HO_462004.out hk))
        (case aO => exact (rs_ HO_462003.out))
        (case aS => exact (below_size bl_))
        (case aL => have := LMc19.out; omega)
        intro v466 w30 ho hb hg hat
        rw [← Ny465.out] at ho
        have HO467 := Aside0.mk (ho)
        replace HO_462004 := ra_ HO_462004.out hg hat
        replace BK458 := bg_ BK458.out hg (Kd.R_ne HO_462003.out BK458.out (by decide))
        replace BK459 := bg_ BK459.out hg (Kd.R_ne HO_462003.out BK459.out (by decide))
        replace BK461 := bg_ BK461.out hg (Kd.R_ne HO_462003.out BK461.out (by decide))
        replace BK463 := bg_ BK463.out hg (Kd.R_ne HO_462003.out BK463.out (by decide))
        replace HB := Aside0.mk (hb)
        clear HO_462003
        clear ho hb hg hat
        obtain ⟨Ao31, co31, eo31⟩ := Kd.R_slice HO467.out
        (first | subst eo31 | (injection eo31 with f1_ f2_ f3_; have f4_ := f1_.symm; have f5_ := f3_.symm; clear f1_ f2_ f3_; subst f4_; subst f5_))
        refine hK.out _ _ ⟨(blk_cell BK461.out 0).trans rfl, (blk_cell BK461.out 1).trans rfl, (blk_cell BK461.out 2).trans rfl, (blk_cell BK461.out 3).trans rfl, (blk_cell BK461.out 4).trans rfl, (blk_cell BK463.out 0).trans rfl, (blk_cell BK463.out 1).trans rfl, (blk_cell BK463.out 2).trans rfl⟩ (fun hHeld => ?_)
        clear hK K
        refine norm_ (a' := ?_) ?_ ?_
        rotate_left
        ·show Act.put _ (some 33) _ = _
         simp only [Act.put, List.setIfInBounds_toArray, List.set_cons_zero, List.set_cons_succ, i64_w, i32_w]
         rfl
        refine pure_ (i := 10) (N := some 34) (v := ?_) (a' := ?_) #[true, true, true, true, true, true, true, true, true, true, true, false] rfl rfl (any_of HT_.out (by kernel_rfl)) (fun _ _ _ h => h) (Or.inl ⟨by rfl, ?_⟩) ?_ ?_
        rotate_left
        ·intro w'
         go_simp
         with_reducible rfl
        rotate_left
        ·simp only [Act.put, List.setIfInBounds_toArray, List.set_cons_zero, List.set_cons_succ, i64_w, i32_w]
         rfl
        refine last_ (i := 11) (N := none) #[true, true, true, true, true, true, true, true, true, true, true, true] rfl rfl (one_of HT_.out (by kernel_rfl)) (by decide) (fun K hK => ?_)
        have hs32 : w30.cell? ⟨gb461, 3, none⟩ = some (u462003) := (blk_cell BK461.out 3).trans rfl
        have hfs32 := blk_frozen BK461.out 3
        have hns32_0 := NB458_461.out
        have hns32_1 := NB459_461.out
        have hns32_3 := NB463_461.out
        have hms32_0 := NB461_458.out
        have hms32_1 := NB461_459.out
        have hms32_3 := NB461_463.out
        refine skip_ (w1 := ?_) (by rfl) rfl ?_ ?_
        rotate_left
        ·go_simp
         rfl
        refine hK.out _ _ ?_
        clear hK K
        refine done_ (done_of HT_.out (by kernel_rfl)) ?_
        try go_wp2
        have n0_ : Aside0 (Kd.R (Kd.int .i64) 3 (w30.setCell ⟨gb461, 3, none⟩ (.slice Ao31 y465.length co31)) w.heap.size (fun k_ => some k_ ≠ (.slice Ao31 y465.length co31 : Value).ownBlock) u462004 x462004_1) := ⟨rs_ (ty_ HO_462004.out BK461.out)⟩
        have n1_ : Aside0 (Kd.R (Kd.int .i64) 3 (w30.setCell ⟨gb461, 3, none⟩ (.slice Ao31 y465.length co31)) w.heap.size (fun k_ => some k_ ≠ (u462004 : Value).ownBlock) (.slice Ao31 y465.length co31) y465) := ⟨rs_ (ty_ HO467.out BK461.out)⟩
        have n2_ : Aside0 ((w30.setCell ⟨gb461, 3, none⟩ (.slice Ao31 y465.length co31)).heap[gb458]? = some (.cells #[.slice A0_0 l0_0.length c0_0, .slice (some ad462) l0_1.length c0_1] 46 (0, 0))) := ⟨bf_ BK458.out⟩
        have n3_ : Aside0 ((w30.setCell ⟨gb461, 3, none⟩ (.slice Ao31 y465.length co31)).heap[gb459]? = some (.cells #[.int .i64 0, .int .i64 0, .int .i64 0, .slice none 0 0, .slice none 0 0] 35 (0, 0))) := ⟨bf_ BK459.out⟩
        have n4_ : Aside0 ((w30.setCell ⟨gb461, 3, none⟩ (.slice Ao31 y465.length co31)).heap[gb461]? = some (.cells #[.int .i64 a1, .int .i64 a2, .int .i64 t460, .slice Ao31 y465.length co31, u462004] 35 (0, 0))) := ⟨bp_ BK461.out⟩
        have n5_ : Aside0 ((w30.setCell ⟨gb461, 3, none⟩ (.slice Ao31 y465.length co31)).heap[gb463]? = some (.cells #[.int .i64 ((rd_T68 l0_1 x20_1).f0), .int .i64 ((rd_T68 l0_1 x20_1).f1), .int .i64 ((rd_T68 l0_1 x20_1).f2)] 68 (0, 0))) := ⟨bf_ BK463.out⟩
        have n6_ : Aside0 (Below w.heap.size w (w30.setCell ⟨gb461, 3, none⟩ (.slice Ao31 y465.length co31))) := ⟨bl_⟩
        (try clear HO_462004)
        (try clear HO467)
        (try clear BK458)
        (try clear BK459)
        (try clear BK461)
        (try clear BK463)
        (try clear HB)
        generalize (w30.setCell ⟨gb461, 3, none⟩ (.slice Ao31 y465.length co31)) = w33 at n0_ n1_ n2_ n3_ n4_ n5_ n6_ ⊢
        have HO_462004 := n0_
        have HO467 := n1_
        have BK458 := n2_
        have BK459 := n3_
        have BK461 := n4_
        have BK463 := n5_
        have HB := n6_
        clear n0_ n1_ n2_ n3_ n4_ n5_ n6_
        replace HO_462004 := Aside0.mk (Kd.R_drew HO_462004.out)
        replace HO467 := Aside0.mk (Kd.R_drew HO467.out)
        replace BK458 := Aside0.mk (blk_drew BK458.out)
        replace BK459 := Aside0.mk (blk_drew BK459.out)
        replace BK461 := Aside0.mk (blk_drew BK461.out)
        replace BK463 := Aside0.mk (blk_drew BK463.out)
        replace HB := Aside0.mk (below_drew1 HB.out)
        refine start_ (n := 12) (S := fun w' => w'.cell? ⟨gb461, 0, none⟩ = some (.int .i64 a1) ∧ w'.cell? ⟨gb461, 1, none⟩ = some (.int .i64 a2) ∧ w'.cell? ⟨gb461, 2, none⟩ = some (.int .i64 t460) ∧ w'.cell? ⟨gb461, 3, none⟩ = some (.slice Ao31 y465.length co31) ∧ w'.cell? ⟨gb461, 4, none⟩ = some (u462004) ∧ w'.cell? ⟨gb463, 0, none⟩ = some (.int .i64 ((rd_T68 l0_1 x20_1).f0)) ∧ w'.cell? ⟨gb463, 1, none⟩ = some (.int .i64 ((rd_T68 l0_1 x20_1).f1)) ∧ w'.cell? ⟨gb463, 2, none⟩ = some (.int .i64 ((rd_T68 l0_1 x20_1).f2))) (ds := [11]) #[false, false, false, false, false, false, false, false, false, false, false, false] (by kernel_rfl) rfl rfl ⟨(blk_cell BK461.out 0).trans rfl, (blk_cell BK461.out 1).trans rfl, (blk_cell BK461.out 2).trans rfl, (blk_cell BK461.out 3).trans rfl, (blk_cell BK461.out 4).trans rfl, (blk_cell BK463.out 0).trans rfl, (blk_cell BK463.out 1).trans rfl, (blk_cell BK463.out 2).trans rfl⟩ (fun hHeld => ?_); refine with_tabW paymasterref14_Due.tab6 paymasterref14_Due.bits6 (fun HT_ HW_ => ?_)
        generalize w33.drew = w34 at HO_462004 HO467 BK458 BK459 BK461 BK463 HB hHeld ⊢
        refine pure_ (i := 0) (N := some 35) (v := ?_) (a' := ?_) #[true, false, false, false, false, false, false, false, false, false, false, false] rfl rfl (any_of HT_.out (by kernel_rfl)) (fun _ _ _ h => h) (Or.inl ⟨by rfl, ?_⟩) ?_ ?_
        rotate_left
        ·intro w'
         go_simp
         with_reducible rfl
        rotate_left
        ·simp only [Act.put, List.setIfInBounds_toArray, List.set_cons_zero, List.set_cons_succ, i64_w, i32_w]
         rfl
        refine pure_ (i := 2) (N := some 37) (v := ?_) (a' := ?_) #[true, false, true, false, false, false, false, false, false, false, false, false] rfl rfl (any_of HT_.out (by kernel_rfl)) (fun _ _ _ h => h) (Or.inl ⟨by rfl, ?_⟩) ?_ ?_
        rotate_left
        ·intro w'
         go_simp
         with_reducible rfl
        rotate_left
        ·simp only [Act.put, List.setIfInBounds_toArray, List.set_cons_zero, List.set_cons_succ, i64_w, i32_w]
         rfl
        refine pure_ (i := 3) (N := some 38) (v := ?_) (a' := ?_) #[true, false, true, true, false, false, false, false, false, false, false, false] rfl rfl (any_of HT_.out (by kernel_rfl)) (fun _ _ _ h => h) (Or.inl ⟨by rfl, ?_⟩) ?_ ?_
        rotate_left
        ·intro w'
         go_simp
         with_reducible rfl
        rotate_left
        ·simp only [Act.put, List.setIfInBounds_toArray, List.set_cons_zero, List.set_cons_succ, i64_w, i32_w]
         rfl
        refine pure_ (i := 5) (N := some 40) (v := ?_) (a' := ?_) #[true, false, true, true, false, true, false, false, false, false, false, false] rfl rfl (any_of HT_.out (by kernel_rfl)) (fun _ _ _ h => h) (Or.inl ⟨by rfl, ?_⟩) ?_ ?_
        rotate_left
        ·intro w'
         go_simp
         with_reducible rfl
        rotate_left
        ·simp only [Act.put, List.setIfInBounds_toArray, List.set_cons_zero, List.set_cons_succ, i64_w, i32_w]
         rfl
        refine take_ (i := 1) (N := some 36) (v := ?_) (a' := ?_) #[true, true, true, true, false, true, false, false, false, false, false, false] rfl rfl (take_ofW HT_.out HW_.out (by kernel_rfl)) (fun _ _ _ h => h) (Or.inl ⟨by rfl, ?_⟩) hHeld ?_ ?_
        rotate_left
        ·rintro w' ⟨s0, s1, s2, s3, s4, s5, s6, s7⟩
         go_simp
         with_reducible rfl
        rotate_left
        ·simp only [Act.put, List.setIfInBounds_toArray, List.set_cons_zero, List.set_cons_succ, i64_w, i32_w]
         rfl
        refine take_ (i := 4) (N := some 39) (v := ?_) (a' := ?_) #[true, true, true, true, true, true, false, false, false, false, false, false] rfl rfl (take_ofW HT_.out HW_.out (by kernel_rfl)) (fun _ _ _ h => h) (Or.inl ⟨by rfl, ?_⟩) hHeld ?_ ?_
        rotate_left
        ·rintro w' ⟨s0, s1, s2, s3, s4, s5, s6, s7⟩
         go_simp
         with_reducible rfl
        rotate_left
        ·simp only [Act.put, List.setIfInBounds_toArray, List.set_cons_zero, List.set_cons_succ, i64_w, i32_w]
         rfl
        refine take_ (i := 6) (N := some 41) (v := ?_) (a' := ?_) #[true, true, true, true, true, true, true, false, false, false, false, false] rfl rfl (take_ofW HT_.out HW_.out (by kernel_rfl)) (fun _ _ _ h => h) (Or.inl ⟨by rfl, ?_⟩) hHeld ?_ ?_
        rotate_left
        ·rintro w' ⟨s0, s1, s2, s3, s4, s5, s6, s7⟩
         go_simp
         with_reducible rfl
        rotate_left
        ·simp only [Act.put, List.setIfInBounds_toArray, List.set_cons_zero, List.set_cons_succ, i64_w, i32_w]
         rfl
        refine one_ (i := 7) (N := some 42) #[true, true, true, true, true, true, true, true, false, false, false, false] rfl rfl (one_of HT_.out (by kernel_rfl)) (by decide) (fun K hK => ?_)
        refine goes_ Try.func30 (by kernel_rfl) rfl #[.int .i64 a2, .int .i64 ((rd_T68 l0_1 x20_1).f1), .int .i64 ((rd_T68 l0_1 x20_1).f2)] (by rfl) rfl rfl ga_ ?_
        with_reducible refine (paymasterref14_part.calls k1 a2 ((rd_T68 l0_1 x20_1).f1) ((rd_T68 l0_1 x20_1).f2) t468 _ A20.out).mono ?_
        rintro e w35 ⟨rfl, hb⟩
        refine ⟨_, rfl, ?_⟩
        replace HO_462004 := rl_ HO_462004.out hb
        replace HO467 := rl_ HO467.out hb
        replace BK458 := bb_ BK458.out hb
        replace BK459 := bb_ BK459.out hb
        replace BK461 := bb_ BK461.out hb
        replace BK463 := bb_ BK463.out hb
        replace HB := hs_ hb
        (try clear hb)
        (try clear hb2)
        (try clear hk)
        (try clear hi)
        refine hK.out _ _ ⟨(blk_cell BK461.out 0).trans rfl, (blk_cell BK461.out 1).trans rfl, (blk_cell BK461.out 2).trans rfl, (blk_cell BK461.out 3).trans rfl, (blk_cell BK461.out 4).trans rfl, (blk_cell BK463.out 0).trans rfl, (blk_cell BK463.out 1).trans rfl, (blk_cell BK463.out 2).trans rfl⟩ (fun hHeld => ?_)
        clear hK K
        refine norm_ (a' := ?_) ?_ ?_
        rotate_left
        ·show Act.put _ (some 42) _ = _
         simp only [Act.put, List.setIfInBounds_toArray, List.set_cons_zero, List.set_cons_succ, i64_w, i32_w]
         rfl
        refine one_ (i := 8) (N := some 43) #[true, true, true, true, true, true, true, true, true, false, false, false] rfl rfl (one_of HT_.out (by kernel_rfl)) (by decide) (fun K hK => ?_)
        refine value_ (w1 := ?_) (v := ?_) (by rfl) rfl ?_ ?_
        rotate_left 2
        ·go_simp
         constructor
         ·rfl
         ·rfl
        refine hK.out _ _ ⟨(blk_cell (blk_alloc BK461.out _) 0).trans rfl, (blk_cell (blk_alloc BK461.out _) 1).trans rfl, (blk_cell (blk_alloc BK461.out _) 2).trans rfl, (blk_cell (blk_alloc BK461.out _) 3).trans rfl, (blk_cell (blk_alloc BK461.out _) 4).trans rfl, (blk_cell (blk_alloc BK463.out _) 0).trans rfl, (blk_cell (blk_alloc BK463.out _) 1).trans rfl, (blk_cell (blk_alloc BK463.out _) 2).trans rfl⟩ (fun hHeld => ?_)
        clear hK K
        refine norm_ (a' := ?_) ?_ ?_
        rotate_left
        ·show Act.put _ (some 43) _ = _
         simp only [Act.put, List.setIfInBounds_toArray, List.set_cons_zero, List.set_cons_succ, i64_w, i32_w]
         rfl
        refine one_ (i := 9) (N := some 44) #[true, true, true, true, true, true, true, true, true, true, false, false] rfl rfl (one_of HT_.out (by kernel_rfl)) (by decide) (fun K hK => ?_)
        refine Kd.R_append_step (Kd.int .i64) (w0 := w) w.heap.size (by rfl) (.tmp 36) (.tmp 43) 28 3 (.int .i64 0) 8 rfl Try.underlying28 info3 rfl (by decide) (by omega) u462004 x462004_1 t468 [.int .i64 t468] (fun k_ => some k_ ≠ (.slice Ao31 y465.length co31 : Value).ownBlock) (fun _ => False) rfl rfl ?aP (fun _ hk => hk.elim) ?aF ?aO ?aB ?aS ?aL ?_
        (case aP => exact rfl)
        (case aB => exact bl_)
        (case aF => exact (fun k_ hk => fr_ HO467.out hk))
        (case aO => exact (rs_ HO_462004.out))
        (case aS => exact (below_size bl_))
        (case aL => have := LMc21.out; omega)
        intro v470 w36 ho hb hg hat
        rw [← Ny469.out] at ho
        have HO471 := Aside0.mk (ho)
        replace BK458 := bg_ BK458.out hg (Kd.R_ne HO_462004.out BK458.out (by decide))
        replace BK459 := bg_ BK459.out hg (Kd.R_ne HO_462004.out BK459.out (by decide))
        replace BK461 := bg_ BK461.out hg (Kd.R_ne HO_462004.out BK461.out (by decide))
        replace BK463 := bg_ BK463.out hg (Kd.R_ne HO_462004.out BK463.out (by decide))
        replace HO467 := ra_ HO467.out hg hat
        replace HB := Aside0.mk (hb)
        clear HO_462004
        clear ho hb hg hat
        obtain ⟨Ao37, co37, eo37⟩ := Kd.R_slice HO471.out
        (first | subst eo37 | (injection eo37 with f1_ f2_ f3_; have f4_ := f1_.symm; have f5_ := f3_.symm; clear f1_ f2_ f3_; subst f4_; subst f5_))
        refine hK.out _ _ ⟨(blk_cell BK461.out 0).trans rfl, (blk_cell BK461.out 1).trans rfl, (blk_cell BK461.out 2).trans rfl, (blk_cell BK461.out 3).trans rfl, (blk_cell BK461.out 4).trans rfl, (blk_cell BK463.out 0).trans rfl, (blk_cell BK463.out 1).trans rfl, (blk_cell BK463.out 2).trans rfl⟩ (fun hHeld => ?_)
        clear hK K
        refine norm_ (a' := ?_) ?_ ?_
        rotate_left
        ·show Act.put _ (some 44) _ = _
         simp only [Act.put, List.setIfInBounds_toArray, List.set_cons_zero, List.set_cons_succ, i64_w, i32_w]
         rfl
        refine pure_ (i := 10) (N := some 45) (v := ?_) (a' := ?_) #[true, true, true, true, true, true, true, true, true, true, true, false] rfl rfl (any_of HT_.out (by kernel_rfl)) (fun _ _ _ h => h) (Or.inl ⟨by rfl, ?_⟩) ?_ ?_
        rotate_left
        ·intro w'
         go_simp
         with_reducible rfl
        rotate_left
        ·simp only [Act.put, List.setIfInBounds_toArray, List.set_cons_zero, List.set_cons_succ, i64_w, i32_w]
         rfl
        refine last_ (i := 11) (N := none) #[true, true, true, true, true, true, true, true, true, true, true, true] rfl rfl (one_of HT_.out (by kernel_rfl)) (by decide) (fun K hK => ?_)
        have hs38 : w36.cell? ⟨gb461, 4, none⟩ = some (u462004) := (blk_cell BK461.out 4).trans rfl
        have hfs38 := blk_frozen BK461.out 4
        have hns38_0 := NB458_461.out
        have hns38_1 := NB459_461.out
        have hns38_3 := NB463_461.out
        have hms38_0 := NB461_458.out
        have hms38_1 := NB461_459.out
        have hms38_3 := NB461_463.out
        refine skip_ (w1 := ?_) (by rfl) rfl ?_ ?_
        rotate_left
        ·go_simp
         rfl
        refine hK.out _ _ ?_
        clear hK K
        refine done_ (done_of HT_.out (by kernel_rfl)) ?_
        try go_wp2
        go_roundg k1
        case measure => have := HK1.out; omega
        case rel => exact ⟨(wrap64 (x20_1 + 1)), (y465), (y469), (.slice Ao31 y465.length co31), (.slice Ao37 y469.length co37), sm_, H', ⟨by have := HK1.out; omega⟩, ⟨rs_ (ty_ HO467.out BK461.out)⟩, ⟨rs_ (ty_ HO471.out BK461.out)⟩, ⟨bf_ BK458.out⟩, ⟨bf_ BK459.out⟩, ⟨bp_ BK461.out⟩, ⟨bl_⟩⟩
       ·rw [if_neg c21] at H
        exact absurd H (by simp)
      ·rw [if_neg c19] at H
       exact absurd H (by simp)
     ·rw [if_neg c17] at H
      exact absurd H (by simp)
    ·rw [if_neg c16] at H
     exact absurd H (by simp)
   ·rw [if_neg c15] at H
    have c15b0 : decide (x20_1 < (l0_1.length : Int)) = false := decide_eq_false c15
    clear c15
    simp only [Option.some.injEq, Prod.mk.injEq] at H
    obtain ⟨rfl, rfl, rfl, rfl, rfl⟩ := H
    have hnb39 := NB461_458.out
    have hnc39 := NB458_461.out
    have hnb40 := NB461_459.out
    have hnc40 := NB459_461.out
    obtain ⟨hcz41_0, hcz41_1, hcz41_2, hcz41_3, hcz41_4, hfz41_0, hfz41_1, hfz41_2, hfz41_3, hfz41_4⟩ := c5_ BK461.out
    have hnb42 := NB459_458.out
    have hnc42 := NB458_459.out
    obtain ⟨hcz43_0, hcz43_1, hcz43_2, hcz43_3, hcz43_4, hfz43_0, hfz43_1, hfz43_2, hfz43_3, hfz43_4⟩ := c5_ BK459.out
    obtain ⟨Ao44, co44, eo44⟩ := Kd.R_slice HO_462003.out
    subst eo44
    obtain ⟨Ao45, co45, eo45⟩ := Kd.R_slice HO_462004.out
    subst eo45
    go_wp2
    refine bodyPost_ret (results_cell_row rfl _ _ gb459 35 #[.int .i64 a1, .int .i64 a2, .int .i64 t460, .slice Ao44 x462003_1.length co44, .slice Ao45 x462004_1.length co45] (0, 0) _ rfl (bp_ BK459.out) Try.underlying35 rfl (by kernel_rfl)) rfl ?_
    exact ⟨_, _, se_, by refine kr_ ?_; exact Kd.R_mono (rf5_ (Kd.R_types HO_462003.out BK459.out (by decide))) (fun _ hk => hk.1), by refine kr_ ?_; exact Kd.R_mono (rf5_ (Kd.R_types HO_462004.out BK459.out (by decide))) (fun _ hk => hk.1), bl_⟩

end Go.Proofs.Ytocaneaofdbpoaa.PA
