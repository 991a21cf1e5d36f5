/- Contracts of the functions of the given program: written by wip/pmprint.py, a program of this session, which runs the print of the kit over altered functions. -/
import Derived.Test.YtocaneaofdbpoaaPAx0
import Derived.Test.YtocaneaofdbpoaaPAx12
import Derived.Test.YtocaneaofdbpoaaPAx13
import Derived.Test.YtocaneaofdbpoaaPAx14
namespace Go.Proofs.Ytocaneaofdbpoaa.PA
open Go.RowKit Go.Proofs.YtocaneaofdbpoaaW.PrintWords Go.Proofs.YtocaneaofdbpoaaW.PrintLast Go.Proofs.YtocaneaofdbpoaaW.PrintMore
attribute [local go_sem] max2_int min2_int max_two min_two max_three min_three max_four min_four   -- for this text's walks alone
set_option linter.unusedVariables false
set_option linter.unusedSimpArgs false

/-! ### paymasterref02_MulDiv: function 36 -/
mutual
def paymasterref02_MulDiv.l0 : Nat → Int → List Int → List Int → Int → Bool → List Int → Bool → List Int → Option (Int × Bool)
  | 0, _, _, _, _, _, _, _, _ => none
  | k + 1, x3, x12, x13, x14, x415000, x415001, x416000, x416001 => if x14 ≥ 0 then (if 0 ≤ x14 then (if x14 < (x415001.length : Int) then (if ([] : List Int).length < 17592186044416 then ((some (([] : List Int) ++ [rd x415001 x14] : List Int)).bind fun y417 => (if y417.length + x12.length < 17592186044416 then ((paymasterref02_trim.f k (y417 ++ x12)).bind fun t423 => (paymasterref02_MulDiv.l1 k x3 t423 x13 x14 0 x415000 x415001 x416000 x416001)) else (none))) else (none)) else (none)) else (none)) else (if (x13.length : Int) > 0 then (if 0 ≤ (wrap64 ((x13.length : Int) - 1)) then (if (wrap64 ((x13.length : Int) - 1)) < (x13.length : Int) then (paymasterref02_MulDiv.j2 k x3 x12 x13 ((Int.tmod (rd x13 (wrap64 ((x13.length : Int) - 1))) 2) == 1) x415000 x415001 x416000 x416001) else (none)) else (none)) else (paymasterref02_MulDiv.j2 k x3 x12 x13 false x415000 x415001 x416000 x416001))
def paymasterref02_MulDiv.l1 : Nat → Int → List Int → List Int → Int → Int → Bool → List Int → Bool → List Int → Option (Int × Bool)
  | 0, _, _, _, _, _, _, _, _, _ => none
  | k + 1, x3, x12, x13, x14, x16, x415000, x415001, x416000, x416001 => (paymasterref02_size.f k x12 x416001).bind fun t426 => (if t426 ≥ 0 then ((paymasterref02_less.f k x12 x416001).bind fun t427 => (paymasterref02_MulDiv.l1 k x3 t427 x13 x14 (wrap64 (x16 + 1)) x415000 x415001 x416000 x416001)) else (if x13.length < 17592186044416 then (paymasterref02_MulDiv.l0 k x3 x12 (x13 ++ [x16]) (wrap64 (x14 - 1)) x415000 x415001 x416000 x416001) else (none)))
def paymasterref02_MulDiv.j2 : Nat → Int → List Int → List Int → Bool → Bool → List Int → Bool → List Int → Option (Int × Bool)
  | 0, _, _, _, _, _, _, _, _ => none
  | k + 1, x3, x12, x13, x17, x415000, x415001, x416000, x416001 => (paymasterref02_double.f k x12).bind fun t434 => ((paymasterref02_size.f k t434 x416001).bind fun t437 => (if x3 = 1 then (if (x12.length : Int) > 0 then (paymasterref02_MulDiv.j3 k x13 true x415000 x415001 x416000 x416001) else (if x3 > 1 then (if t437 > 0 then (paymasterref02_MulDiv.j3 k x13 true x415000 x415001 x416000 x416001) else (if t437 = 0 then (if x3 = 2 then (paymasterref02_MulDiv.j3 k x13 true x415000 x415001 x416000 x416001) else (if x3 = 3 then (paymasterref02_MulDiv.j3 k x13 x17 x415000 x415001 x416000 x416001) else (paymasterref02_MulDiv.j3 k x13 false x415000 x415001 x416000 x416001))) else (paymasterref02_MulDiv.j3 k x13 false x415000 x415001 x416000 x416001))) else (if t437 = 0 then (if x3 = 2 then (paymasterref02_MulDiv.j3 k x13 true x415000 x415001 x416000 x416001) else (if x3 = 3 then (paymasterref02_MulDiv.j3 k x13 x17 x415000 x415001 x416000 x416001) else (paymasterref02_MulDiv.j3 k x13 false x415000 x415001 x416000 x416001))) else (paymasterref02_MulDiv.j3 k x13 false x415000 x415001 x416000 x416001)))) else (if x3 > 1 then (if t437 > 0 then (paymasterref02_MulDiv.j3 k x13 true x415000 x415001 x416000 x416001) else (if t437 = 0 then (if x3 = 2 then (paymasterref02_MulDiv.j3 k x13 true x415000 x415001 x416000 x416001) else (if x3 = 3 then (paymasterref02_MulDiv.j3 k x13 x17 x415000 x415001 x416000 x416001) else (paymasterref02_MulDiv.j3 k x13 false x415000 x415001 x416000 x416001))) else (paymasterref02_MulDiv.j3 k x13 false x415000 x415001 x416000 x416001))) else (if t437 = 0 then (if x3 = 2 then (paymasterref02_MulDiv.j3 k x13 true x415000 x415001 x416000 x416001) else (if x3 = 3 then (paymasterref02_MulDiv.j3 k x13 x17 x415000 x415001 x416000 x416001) else (paymasterref02_MulDiv.j3 k x13 false x415000 x415001 x416000 x416001))) else (paymasterref02_MulDiv.j3 k x13 false x415000 x415001 x416000 x416001)))))
def paymasterref02_MulDiv.j3 : Nat → List Int → Bool → Bool → List Int → Bool → List Int → Option (Int × Bool)
  | 0, _, _, _, _, _, _ => none
  | k + 1, x13, x19, x415000, x415001, x416000, x416001 => paymasterref02_MulDiv.l2 k x13 x19 0 0 x415000 x415001 x416000 x416001
def paymasterref02_MulDiv.l2 : Nat → List Int → Bool → Int → Int → Bool → List Int → Bool → List Int → Option (Int × Bool)
  | 0, _, _, _, _, _, _, _, _ => none
  | k + 1, x13, x19, x20, x21, x415000, x415001, x416000, x416001 => if x21 < (x13.length : Int) then (if 0 ≤ x21 then (if x20 > (wrap64 (Int.tdiv (wrap64 (9223372036854775807 - (rd x13 x21))) 10)) then (some (0, false)) else (paymasterref02_MulDiv.l2 k x13 x19 (wrap64 ((wrap64 (10 * x20)) + (rd x13 x21))) (wrap64 (x21 + 1)) x415000 x415001 x416000 x416001)) else (none)) else (if x19 = true then (if x20 = 9223372036854775807 then (some (0, false)) else (if (x415000 != x416000) = true then (some (wrap64 (-(wrap64 (x20 + 1))), true)) else (some (wrap64 (x20 + 1), true)))) else (if (x415000 != x416000) = true then (some (wrap64 (-x20), true)) else (some (x20, true))))
end
def paymasterref02_MulDiv.f (k : Nat) (a0 : Int) (a1 : Int) (a2 : Int) (a3 : Int) : Option (Int × Bool) := (paymasterref02_Of.f k a0).bind fun bt398 => ((paymasterref02_Of.f k a1).bind fun bt402 => ((paymasterref02_Mul.f k bt398.1 bt398.2 bt402.1 bt402.2).bind fun bt406 => ((paymasterref02_Of.f k a2).bind fun bt410 => (paymasterref02_MulDiv.l0 k a3 ([] : List Int) ([] : List Int) (wrap64 ((bt406.2.length : Int) - 1)) bt406.1 bt406.2 bt410.1 bt410.2))))
set_option maxHeartbeats 8000000 in
set_option maxRecDepth 100000 in
theorem paymasterref02_MulDiv.calls (k : Nat) (a0 : Int) (a1 : Int) (a2 : Int) (a3 : Int) (r1 : Int) (r2 : Bool) (w : World) (h : paymasterref02_MulDiv.f k a0 a1 a2 a3 = some (r1, r2)) :
    Calls Try.prog 36 #[.int .i64 a0, .int .i64 a1, .int .i64 a2, .int .i64 a3] w fun e w' => e = .returned (.tuple #[.int .i64 r1, .bool r2]) ∧ Below w.heap.size w w' := by
 have hu87 := Try.underlying87
 have HB := Aside0.mk (Below.refl w.heap.size w)
 have H : ((paymasterref02_Of.f k a0).bind fun bt398 => ((paymasterref02_Of.f k a1).bind fun bt402 => ((paymasterref02_Mul.f k bt398.1 bt398.2 bt402.1 bt402.2).bind fun bt406 => ((paymasterref02_Of.f k a2).bind fun bt410 => (paymasterref02_MulDiv.l0 k a3 ([] : List Int) ([] : List Int) (wrap64 ((bt406.2.length : Int) - 1)) bt406.1 bt406.2 bt410.1 bt410.2))))) = some (r1, r2) := h
 clear h
 replace H := Option.bind_eq_some_iff.mp H
 obtain ⟨⟨t398, t399⟩, A50, H⟩ := H
 (try dsimp only at H)
 have A5 := Aside0.mk A50
 clear A50
 replace H := Option.bind_eq_some_iff.mp H
 obtain ⟨⟨t402, t403⟩, A60, H⟩ := H
 (try dsimp only at H)
 have A6 := Aside0.mk A60
 clear A60
 replace H := Option.bind_eq_some_iff.mp H
 obtain ⟨⟨t406, t407⟩, A70, H⟩ := H
 (try dsimp only at H)
 have A7 := Aside0.mk A70
 clear A70
 replace H := Option.bind_eq_some_iff.mp H
 obtain ⟨⟨t410, t411⟩, A80, H⟩ := H
 (try dsimp only at H)
 have A8 := Aside0.mk A80
 clear A80
 have H' := Aside0.mk H
 clear H
 go_enter Try.func36, Try.ntmps36
 go_wp2_with (first | ((with_reducible refine gate_callee (f := 46) rfl ?_); refine goesL_ (some 23) rfl rfl Try.func46 (by kernel_rfl) rfl #[.int .i64 a0] rfl ga_ ?_; (with_reducible refine (paymasterref02_Of.calls k a0 t398 t399 _ A5.out).mono ?_); rintro e w9 ⟨v400, rfl, ho0, hb⟩; refine ⟨_, rfl, ?_⟩; have HO401 := rl0_ ho0; replace HB := hs_ hb; (try clear hb); (try clear hb2); (try clear hk); (try clear hi); (try clear ho0)) | ((with_reducible refine gate_callee (f := 46) rfl ?_); refine goesL_ (some 25) rfl rfl Try.func46 (by kernel_rfl) rfl #[.int .i64 a1] rfl ga_ ?_; (with_reducible refine (paymasterref02_Of.calls k a1 t402 t403 _ A6.out).mono ?_); rintro e w10 ⟨v404, rfl, ho0, hb⟩; refine ⟨_, rfl, ?_⟩; have HO405 := rl0_ (rn_ ho0 HO401.out); replace HO401 := re_ HO401.out ho0 hb; replace HB := hs_ hb; (try clear hb); (try clear hb2); (try clear hk); (try clear hi); (try clear ho0); obtain ⟨Ao11, co11, eo11⟩ := Kd.R_slice HO401.out; subst eo11; obtain ⟨Ao12, co12, eo12⟩ := Kd.R_slice HO405.out; subst eo12) | ((with_reducible refine gate_callee (f := 45) rfl ?_); refine goesL_ (some 26) rfl rfl Try.func45 (by kernel_rfl) rfl #[.agg #[.bool t398, .slice Ao11 t399.length co11], .agg #[.bool t402, .slice Ao12 t403.length co12]] rfl ga_ ?_; (with_reducible refine (paymasterref02_Mul.calls k t398 _ _ t399 t402 _ _ t403 t406 t407 _ ?side1 ?side2 ?side3 ?side4 A7.out).mono ?_); (case side1 => exact kc_ (Kd.R_reads' HO401.out).2.2); (case side2 => exact (Kd.R_reads' HO401.out).2.1); (case side3 => exact kc_ (Kd.R_reads' HO405.out).2.2); (case side4 => exact (Kd.R_reads' HO405.out).2.1); rintro e w13 ⟨v408, rfl, ho0, hb⟩; refine ⟨_, rfl, ?_⟩; have HO409 := Aside0.mk (Kd.V_lower (Kd.V_mono (ok' := fun k_ => some k_ ≠ (.slice Ao11 t399.length co11 : Value).ownBlock ∧ some k_ ≠ (.slice Ao12 t403.length co12 : Value).ownBlock) ho0 (fun k_ hk_ => ⟨(Kd.fresh' (Kd.R_lt (rq_ HO401.out)) k_ hk_), (Kd.fresh' (Kd.R_lt (rq_ HO405.out)) k_ hk_)⟩)) (below_size bl_)); replace HO401 := rl_ HO401.out hb; replace HO405 := rl_ HO405.out hb; replace HB := hs_ hb; (try clear hb); (try clear hb2); (try clear hk); (try clear hi); (try clear ho0)) | ((with_reducible refine gate_callee (f := 46) rfl ?_); refine goesL_ (some 28) rfl rfl Try.func46 (by kernel_rfl) rfl #[.int .i64 a2] rfl ga_ ?_; (with_reducible refine (paymasterref02_Of.calls k a2 t410 t411 _ A8.out).mono ?_); rintro e w14 ⟨v412, rfl, ho0, hb⟩; refine ⟨_, rfl, ?_⟩; have HO413 := rl0_ (rn_ (rn_ ho0 HO401.out) HO405.out); replace HO401 := re_ HO401.out ho0 hb; replace HO405 := re_ HO405.out ho0 hb; replace HO409 := Aside0.mk (Kd.V_elder' (by refine kv_ ?_; exact HO409.out) (Kd.R_base ho0) hb); replace HB := hs_ hb; (try clear hb); (try clear hb2); (try clear hk); (try clear hi); (try clear ho0)) | ((with_reducible refine gate_dst (N := 10) rfl ?_); (try (refine gate_guard (by rfl) ?_; dsimp only)); refine bx_ 10 #[.bool false, .slice none 0 0] 87 ?_; intro gb414 hg w15 hbox hb; have BK414 := Aside0.mk hbox; have GW414 := gs_ hg; have GE414 := gs_ hg; replace HO401 := rl_ HO401.out hb; replace HO405 := rl_ HO405.out hb; replace HO409 := Aside0.mk (Kd.V_below (Kd.V_elderB (by refine kv_ ?_; exact HO409.out) gb414 (Nat.le_of_eq hg.symm)) hb); replace HO413 := rl_ HO413.out hb; replace HB := hs_ hb; clear hb hbox hg) | ((with_reducible refine gate_dst (N := 11) rfl ?_); (try (refine gate_guard (by rfl) ?_; dsimp only)); refine bx_ 11 #[.bool false, .slice none 0 0] 87 ?_; intro gb415 hg w16 hbox hb; have BK415 := Aside0.mk hbox; have GW415 := gs_ hg; have GE415 := gs_ hg; have NB414_415 := nl_ hg BK414.out; have NB415_414 := ng_ hg BK414.out; replace HO401 := rl_ HO401.out hb; replace HO405 := rl_ HO405.out hb; replace HO409 := Aside0.mk (Kd.V_below (Kd.V_elderB (by refine kv_ ?_; exact HO409.out) gb415 (Nat.le_of_eq hg.symm)) hb); replace HO413 := rl_ HO413.out hb; replace BK414 := bb_ BK414.out hb; replace HB := hs_ hb; clear hb hbox hg; have hnb17 := NB414_415.out; have hnc17 := NB415_414.out; obtain ⟨hcz18_0, hcz18_1, hfz18_0, hfz18_1⟩ := c2_ BK414.out; obtain ⟨Ao19, co19, eo19⟩ := Kd.V_slice HO409.out; subst eo19; obtain ⟨hcz20_0, hcz20_1, hfz20_0, hfz20_1⟩ := c2_ BK415.out; obtain ⟨Ao21, co21, eo21⟩ := Kd.R_slice HO413.out; subst eo21))
 go_loopg [12, 13, 14] k (fun kq v12 v13 v14 w' => ∃ (x12_1 : List Int) (x13_1 : List Int) (x14_1 : Int), v14 = .int .i64 x14_1 ∧ Aside0 (paymasterref02_MulDiv.l0 kq a3 x12_1 x13_1 x14_1 t406 t407 t410 t411 = some (r1, r2)) ∧ Aside0 (kq ≤ k) ∧ Aside0 (Kd.V (Kd.int .i64) 3 w' w.heap.size (fun k_ => some k_ ≠ (v13 : Value).ownBlock ∧ some k_ ≠ ((.slice Ao21 t411.length co21) : Value).ownBlock ∧ k_ ≠ gb414 ∧ k_ ≠ gb415) v12 x12_1) ∧ Aside0 (Kd.R (Kd.int .i64) 3 w' w.heap.size (fun k_ => some k_ ≠ ((.slice Ao21 t411.length co21) : Value).ownBlock) v13 x13_1) ∧ Aside0 (Kd.V (Kd.int .i64) 3 w' w.heap.size (fun k_ => some k_ ≠ (v13 : Value).ownBlock ∧ some k_ ≠ ((.slice Ao21 t411.length co21) : Value).ownBlock ∧ k_ ≠ gb414 ∧ k_ ≠ gb415) (.slice Ao19 t407.length co19) t407) ∧ Aside0 (Kd.R (Kd.int .i64) 3 w' w.heap.size (fun k_ => some k_ ≠ (v13 : Value).ownBlock) (.slice Ao21 t411.length co21) t411) ∧ Aside0 (w'.heap[gb414]? = some (.cells #[.bool t406, (.slice Ao19 t407.length co19)] 87 (0, 0))) ∧ Aside0 (w'.heap[gb415]? = some (.cells #[.bool t410, (.slice Ao21 t411.length co21)] 87 (0, 0))) ∧ Aside0 (Below w.heap.size w w'))
 case atStart => exact ⟨(([] : List Int)), (([] : List Int)), (wrap64 ((t407.length : Int) - 1)), sm_, H', ⟨Nat.le_refl _⟩, ⟨Kd.V_nil _ _ _ _ _⟩, ⟨kn_⟩, ⟨by refine kv_ ?_; exact Kd.V_mono (Kd.V_far (p := ⟨gb415, 1, none⟩) (Kd.V_far (p := ⟨gb415, 0, none⟩) (Kd.V_far (p := ⟨gb414, 1, none⟩) (Kd.V_far (p := ⟨gb414, 0, none⟩) (Kd.V_mono (Kd.V_mono HO409.out (fun k_ hk => (⟨hk, hk.1.2⟩ : _ ∧ k_ ≠ gb414))) (fun k_ hk => (⟨hk, hk.1.2⟩ : _ ∧ k_ ≠ gb415))) (fun _ hk => hk.1.2) (.bool t406)) (fun _ hk => hk.1.2) (.slice Ao19 t407.length co19)) (fun _ hk => hk.2) (.bool t410)) (fun _ hk => hk.2) (.slice Ao21 t411.length co21)) (fun _ hk => ⟨(by simp [Value.ownBlock]), ⟨hk.1.1.1.1.2, ⟨hk.1.1.1.2, hk.1.1.2⟩⟩⟩)⟩, ⟨rs_ (ty_ (ty_ HO413.out BK414.out) BK415.out)⟩, ⟨bp_ BK414.out⟩, ⟨bp_ BK415.out⟩, ⟨bl_⟩⟩
 case round =>
  clear H'
  try clear hcz18_0; try clear hcz18_1; try clear hcz20_0; try clear hcz20_1; try clear hfz18_0; try clear hfz18_1; try clear hfz20_0; try clear hfz20_1
  obtain ⟨x12_1, x13_1, x14_1, rfl, HA, HK1, HO_12, HO_13, HO_415001, HO_416001, BK414, BK415, HB⟩ := hrel
  cases gk with
  | zero => exact absurd HA.out (by simp [paymasterref02_MulDiv.l0])
  | succ k1 =>
   have H := HA.out
   clear HA
   simp only [paymasterref02_MulDiv.l0] at H
   by_cases c22 : x14_1 ≥ 0
   ·rw [if_pos c22] at H
    have c22b0 : decide (0 ≤ x14_1) = true := decide_eq_true c22
    clear c22
    by_cases c23 : 0 ≤ x14_1
    ·rw [if_pos c23] at H
     have c23b0 : decide (0 ≤ x14_1) = true := decide_eq_true c23
     clear c23
     by_cases c24 : x14_1 < (t407.length : Int)
     ·rw [if_pos c24] at H
      have c24b0 : decide (x14_1 < (t407.length : Int)) = true := decide_eq_true c24
      clear c24
      by_cases c25 : ([] : List Int).length < 17592186044416
      ·rw [if_pos c25] at H
       have LMc25 := Aside0.mk c25
       clear c25
       obtain ⟨y417, hy417⟩ : ∃ y_ : List Int, y_ = (([] : List Int) ++ [rd t407 x14_1]) := ⟨_, rfl⟩
       replace H : (if y417.length + x12_1.length < 17592186044416 then ((paymasterref02_trim.f k1 (y417 ++ x12_1)).bind fun t423 => (paymasterref02_MulDiv.l1 k1 a3 t423 x13_1 x14_1 0 t406 t407 t410 t411)) else (none)) = some (r1, r2) := by first | (rw [hy417]; with_reducible exact H) | (have H2_ := (Option.bind_some _ _).symm.trans H; rw [hy417]; with_reducible exact H2_) | (have H2_ := (Option.bind_some _ _).symm.trans H; with_reducible exact H2_) | with_reducible exact H | (rw [hy417]; exact H) | exact H
       have Ny417 := Aside0.mk hy417
       clear hy417
       by_cases c26 : y417.length + x12_1.length < 17592186044416
       ·rw [if_pos c26] at H
        have LMc26 := Aside0.mk c26
        clear c26
        obtain ⟨y420, hy420⟩ : ∃ y_ : List Int, y_ = (y417 ++ x12_1) := ⟨_, rfl⟩
        replace H : ((paymasterref02_trim.f k1 y420).bind fun t423 => (paymasterref02_MulDiv.l1 k1 a3 t423 x13_1 x14_1 0 t406 t407 t410 t411)) = some (r1, r2) := by first | (rw [hy420]; with_reducible exact H) | (have H2_ := (Option.bind_some _ _).symm.trans H; rw [hy420]; with_reducible exact H2_) | (have H2_ := (Option.bind_some _ _).symm.trans H; with_reducible exact H2_) | with_reducible exact H | (rw [hy420]; exact H) | exact H
        have Ny420 := Aside0.mk hy420
        clear hy420
        replace H := Option.bind_eq_some_iff.mp H
        obtain ⟨t423, A270, H⟩ := H
        (try dsimp only at H)
        have A27 := Aside0.mk A270
        clear A270
        have H' := Aside0.mk H
        clear H
        have hnb28 := NB414_415.out
        have hnc28 := NB415_414.out
        obtain ⟨hcz29_0, hcz29_1, hfz29_0, hfz29_1⟩ := c2_ BK414.out
        have p416 : 0 ≤ (x14_1 : Int) := od_
        have q416 : x14_1 < (t407.length : Int) := od_
        obtain ⟨ad416, e416, hx416_0⟩ := Kd.at_int (Kd.V_reads' HO_415001.out).2.2 x14_1 p416 q416
        cases e416
        replace p416 := eq_true p416
        replace q416 := eq_true q416
        go_wp2_with (first | ((with_reducible refine gate_builtin (b := .append) (xs := #[.tmp 37, .tmp 43]) rfl ?_); (try (refine gate_guard (by rfl) ?_; dsimp only)); at_builtin; refine Kd.R_append (Kd.int .i64) (w0 := w) w.heap.size rfl (.tmp 37) (.tmp 43) 28 3 (.int .i64 0) 8 rfl Try.underlying28 info3 rfl (by decide) (by omega) (.slice none 0 0) ([] : List Int) (rd t407 x14_1) [.int .i64 (rd t407 x14_1)] (fun k_ => some k_ ≠ (u13 : Value).ownBlock ∧ some k_ ≠ (.slice Ao21 t411.length co21 : Value).ownBlock) (fun _ => False) rfl rfl ?aP (fun _ hk => hk.elim) ?aF ?aO ?aB ?aS ?aL ?_; (case aP => exact rfl); (case aB => exact bl_); (case aF => exact (fun k_ hk => ⟨fr_ HO_13.out hk, fr_ HO_416001.out hk⟩)); (case aO => exact ((Kd.R_nil _ _ _ _ (fun k_ => some k_ ≠ (u13 : Value).ownBlock ∧ some k_ ≠ (.slice Ao21 t411.length co21 : Value).ownBlock)))); (case aS => exact (below_size bl_)); (case aL => have := LMc25.out; omega); intro v418 w30 ho hb hg hat; rw [← Ny417.out] at ho; have HO419 := Aside0.mk (ho); replace HO_12 := Aside0.mk (Kd.V_afterv (Kd.V_apart_nil (by refine kv_ ?_; exact HO_12.out)) hg hat); replace HO_13 := Aside0.mk (Kd.R_after (Kd.R_apart_nil (rq_ HO_13.out)) hg hat); replace HO_415001 := Aside0.mk (Kd.V_afterv (Kd.V_apart_nil (by refine kv_ ?_; exact HO_415001.out)) hg hat); replace HO_416001 := Aside0.mk (Kd.R_after (Kd.R_apart_nil (rq_ HO_416001.out)) hg hat); replace BK414 := bg_ BK414.out hg (by simp [Value.ownBlock]); replace BK415 := bg_ BK415.out hg (by simp [Value.ownBlock]); replace HB := Aside0.mk (hb); clear ho hb hg hat; obtain ⟨Ao32, co32, eo32⟩ := Kd.V_slice HO_12.out; subst eo32) | ((with_reducible refine gate_builtin (b := .append) (xs := #[.tmp 45, .tmp 46]) rfl ?_); (try (refine gate_guard (by rfl) ?_; dsimp only)); at_builtin; refine Kd.R_append_rows (Kd.int .i64) (w0 := w) w.heap.size rfl (.tmp 45) (.tmp 46) 28 3 (.int .i64 0) 8 rfl Try.underlying28 info3 rfl (by decide) (by omega) v418 y417 x12_1 _ _ _ (fun k_ => some k_ ≠ (u13 : Value).ownBlock ∧ some k_ ≠ (.slice Ao21 t411.length co21 : Value).ownBlock) (fun _ => False) rfl rfl ?aO ?aR (fun _ _ h => h) (fun _ h => h.elim) ?aF ?aB ?aS ?aL ?_; (case aR => exact kc_ (Kd.V_reads' HO_12.out).2.2); (case aB => exact bl_); (case aF => exact (fun k_ hk => ⟨fr_ HO_13.out hk, fr_ HO_416001.out hk⟩)); (case aO => exact (rs_ HO419.out)); (case aS => exact (below_size bl_)); (case aL => have := LMc26.out; omega); intro v421 w31 ho hb hg hat; rw [← Ny420.out] at ho; have HO422 := Aside0.mk (ho); replace HO_12 := Aside0.mk (Kd.V_afterv (ok := (fun k_ => some k_ ≠ (u13 : Value).ownBlock ∧ some k_ ≠ (.slice Ao21 t411.length co21 : Value).ownBlock ∧ k_ ≠ gb414 ∧ k_ ≠ gb415)) (by refine kv_ ?_; exact HO_12.out) hg hat); replace HO_13 := ra_ HO_13.out hg hat; replace HO_415001 := Aside0.mk (Kd.V_afterv (ok := (fun k_ => some k_ ≠ (u13 : Value).ownBlock ∧ some k_ ≠ (.slice Ao21 t411.length co21 : Value).ownBlock ∧ k_ ≠ gb414 ∧ k_ ≠ gb415)) (by refine kv_ ?_; exact HO_415001.out) hg hat); replace HO_416001 := ra_ HO_416001.out hg hat; replace BK414 := bg_ BK414.out hg (Kd.R_ne HO419.out BK414.out (by decide)); replace BK415 := bg_ BK415.out hg (Kd.R_ne HO419.out BK415.out (by decide)); replace HB := Aside0.mk (hb); clear HO419; clear ho hb hg hat; obtain ⟨Ao33, co33, eo33⟩ := Kd.R_slice HO422.out; subst eo33) | ((with_reducible refine gate_callee (f := 47) rfl ?_); refine goesL_ (some 48) rfl rfl Try.func47 (by kernel_rfl) rfl #[.slice Ao33 y420.length co33] rfl ga_ ?_; (with_reducible refine (paymasterref02_trim.calls k1 (fun k_ => some k_ = (.slice Ao33 y420.length co33 : Value).ownBlock) _ _ y420 t423 _ ?side1 A27.out).mono ?_); (case side1 => exact Kd.R_V (Kd.R_tight rfl (Kd.R_types (Kd.R_types (HO422.out) BK414.out (by decide)) BK415.out (by decide)))); rintro e w34 ⟨v424, rfl, ho0, hb⟩; refine ⟨_, rfl, ?_⟩; have HO425 := Aside0.mk (Kd.V_lower (Kd.V_mono (ok' := fun k_ => some k_ ≠ (u13 : Value).ownBlock ∧ some k_ ≠ (.slice Ao21 t411.length co21 : Value).ownBlock ∧ k_ ≠ gb414 ∧ k_ ≠ gb415) ho0 (fun k_ hk_ => ⟨Or.elim hk_ (fun hs_ => ((Kd.R_types (Kd.R_types (HO422.out) BK414.out (by decide)) BK415.out (by decide)).1 k_ hs_.symm).1.1.1) (fun hn_ => (Kd.fresh' (Kd.R_lt (rq_ HO_13.out)) k_ hn_)), Or.elim hk_ (fun hs_ => ((Kd.R_types (Kd.R_types (HO422.out) BK414.out (by decide)) BK415.out (by decide)).1 k_ hs_.symm).1.1.2) (fun hn_ => (Kd.fresh' (Kd.R_lt (rq_ HO_416001.out)) k_ hn_)), Or.elim hk_ (fun hs_ => ((Kd.R_types (Kd.R_types (HO422.out) BK414.out (by decide)) BK415.out (by decide)).1 k_ hs_.symm).1.2) (fun hn_ => (Kd.freshB (g := gb414) (o := .cells #[.bool t406, .slice (some ad416) t407.length co19] 87 (0, 0)) (bq_ BK414.out) k_ hn_)), Or.elim hk_ (fun hs_ => ((Kd.R_types (Kd.R_types (HO422.out) BK414.out (by decide)) BK415.out (by decide)).1 k_ hs_.symm).2) (fun hn_ => (Kd.freshB (g := gb415) (o := .cells #[.bool t410, .slice Ao21 t411.length co21] 87 (0, 0)) (bq_ BK415.out) k_ hn_))⟩)) (below_size bl_)); replace HO_12 := Aside0.mk (Kd.V_below (by refine kv_ ?_; exact HO_12.out) hb); replace HO_13 := rl_ HO_13.out hb; replace HO_415001 := Aside0.mk (Kd.V_below (by refine kv_ ?_; exact HO_415001.out) hb); replace HO_416001 := rl_ HO_416001.out hb; replace HO422 := rl_ HO422.out hb; replace BK414 := bb_ BK414.out hb; replace BK415 := bb_ BK415.out hb; replace HB := hs_ hb; (try clear hb); (try clear hb2); (try clear hk); (try clear hi); (try clear ho0)))
        go_loopg [12, 16] k1 (fun kq v12 v16 w' => ∃ (x12_2 : List Int) (x16_2 : Int), v16 = .int .i64 x16_2 ∧ Aside0 (paymasterref02_MulDiv.l1 kq a3 x12_2 x13_1 x14_1 x16_2 t406 t407 t410 t411 = some (r1, r2)) ∧ Aside0 (kq ≤ k1) ∧ Aside0 (Kd.V (Kd.int .i64) 3 w' w.heap.size (fun k_ => some k_ ≠ (u13 : Value).ownBlock ∧ some k_ ≠ ((.slice Ao21 t411.length co21) : Value).ownBlock ∧ k_ ≠ gb414 ∧ k_ ≠ gb415) v12 x12_2) ∧ Aside0 (Kd.R (Kd.int .i64) 3 w' w.heap.size (fun k_ => some k_ ≠ ((.slice Ao21 t411.length co21) : Value).ownBlock) u13 x13_1) ∧ Aside0 (Kd.V (Kd.int .i64) 3 w' w.heap.size (fun k_ => some k_ ≠ (u13 : Value).ownBlock ∧ some k_ ≠ ((.slice Ao21 t411.length co21) : Value).ownBlock ∧ k_ ≠ gb414 ∧ k_ ≠ gb415) (.slice (some ad416) t407.length co19) t407) ∧ Aside0 (Kd.R (Kd.int .i64) 3 w' w.heap.size (fun k_ => some k_ ≠ (u13 : Value).ownBlock) (.slice Ao21 t411.length co21) t411) ∧ Aside0 (w'.heap[gb414]? = some (.cells #[.bool t406, (.slice (some ad416) t407.length co19)] 87 (0, 0))) ∧ Aside0 (w'.heap[gb415]? = some (.cells #[.bool t410, (.slice Ao21 t411.length co21)] 87 (0, 0))) ∧ Aside0 (Below w.heap.size w w'))
        case atStart => exact ⟨(t423), (0), sm_, H', ⟨Nat.le_refl _⟩, ⟨by refine kv_ ?_; exact HO425.out⟩, ⟨rs_ HO_13.out⟩, ⟨by refine kv_ ?_; exact Kd.V_mono HO_415001.out (fun _ hk => ⟨hk.1.1, ⟨hk.1.2.1, ⟨hk.1.2.2.1, hk.1.2.2.2⟩⟩⟩)⟩, ⟨rs_ HO_416001.out⟩, ⟨bq_ BK414.out⟩, ⟨bq_ BK415.out⟩, ⟨bl_⟩⟩
        case round =>
         clear H'
         try clear c22; try clear c22b0; try clear c23; try clear c23b0; try clear c24; try clear c24b0; try clear c25; try clear c26; try clear hcz18_0; try clear hcz18_1; try clear hcz20_0; try clear hcz20_1; try clear hcz29_0; try clear hcz29_1; try clear hfz18_0; try clear hfz18_1; try clear hfz20_0; try clear hfz20_1; try clear hfz29_0; try clear hfz29_1; try clear hx416_0; try clear p416; try clear q416
         obtain ⟨x12_2, x16_2, rfl, HA, HK2, HO_12, HO_13, HO_415001, HO_416001, BK414, BK415, HB⟩ := hrel
         cases gk with
         | zero => exact absurd HA.out (by simp [paymasterref02_MulDiv.l1])
         | succ k2 =>
          have H := HA.out
          clear HA
          simp only [paymasterref02_MulDiv.l1] at H
          replace H := Option.bind_eq_some_iff.mp H
          obtain ⟨t426, A350, H⟩ := H
          (try dsimp only at H)
          have A35 := Aside0.mk A350
          clear A350
          by_cases c36 : t426 ≥ 0
          ·rw [if_pos c36] at H
           have c36b0 : decide (0 ≤ t426) = true := decide_eq_true c36
           clear c36
           replace H := Option.bind_eq_some_iff.mp H
           obtain ⟨t427, A370, H⟩ := H
           (try dsimp only at H)
           have A37 := Aside0.mk A370
           clear A370
           have H' := Aside0.mk H
           clear H
           have hnb38 := NB415_414.out
           have hnc38 := NB414_415.out
           obtain ⟨hcz39_0, hcz39_1, hfz39_0, hfz39_1⟩ := c2_ BK415.out
           obtain ⟨Ao40, co40, eo40⟩ := Kd.V_slice HO_12.out
           subst eo40
           go_wp2_with (first | ((with_reducible refine gate_callee (f := 48) rfl ?_); refine goesL_ (some 52) rfl rfl Try.func48 (by kernel_rfl) rfl #[.slice Ao40 x12_2.length co40, .slice Ao21 t411.length co21] rfl ga_ ?_; (with_reducible refine (paymasterref02_size.calls k2 _ _ x12_2 _ _ t411 t426 _ ?side1 ?side2 ?side3 ?side4 A35.out).mono ?_); (case side1 => exact kc_ (Kd.V_reads' HO_12.out).2.2); (case side2 => exact (Kd.V_reads' HO_12.out).2.1); (case side3 => exact kc_ (Kd.R_reads' HO_416001.out).2.2); (case side4 => exact (Kd.R_reads' HO_416001.out).2.1); rintro e w' ⟨rfl, ⟨nd, rfl⟩⟩; refine ⟨_, rfl, ?_⟩) | ((with_reducible refine gate_callee (f := 49) rfl ?_); refine goesL_ (some 57) rfl rfl Try.func49 (by kernel_rfl) rfl #[.slice Ao40 x12_2.length co40, .slice Ao21 t411.length co21] rfl ga_ ?_; (with_reducible refine (paymasterref02_less.calls k2 _ _ x12_2 _ _ t411 t427 _ ?side1 ?side2 ?side3 ?side4 A37.out).mono ?_); (case side1 => exact kc_ (Kd.V_reads' HO_12.out).2.2); (case side2 => exact (Kd.V_reads' HO_12.out).2.1); (case side3 => exact kc_ (Kd.R_reads' HO_416001.out).2.2); (case side4 => exact (Kd.R_reads' HO_416001.out).2.1); rintro e w41 ⟨v428, rfl, ho0, hb⟩; refine ⟨_, rfl, ?_⟩; have HO429 := Aside0.mk (Kd.V_lower (Kd.V_mono (ok' := fun k_ => some k_ ≠ (u13 : Value).ownBlock ∧ some k_ ≠ (.slice Ao21 t411.length co21 : Value).ownBlock ∧ k_ ≠ gb414 ∧ k_ ≠ gb415) ho0 (fun k_ hk_ => ⟨(Kd.fresh' (Kd.R_lt (rq_ HO_13.out)) k_ hk_), (Kd.fresh' (Kd.R_lt (rq_ HO_416001.out)) k_ hk_), (Kd.freshB (g := gb414) (o := .cells #[.bool t406, .slice (some ad416) t407.length co19] 87 (0, 0)) (bq_ BK414.out) k_ hk_), (Kd.freshB (g := gb415) (o := .cells #[.bool t410, .slice Ao21 t411.length co21] 87 (0, 0)) (bq_ BK415.out) k_ hk_)⟩)) (below_size bl_)); replace HO_12 := Aside0.mk (Kd.V_below (by refine kv_ ?_; exact HO_12.out) hb); replace HO_13 := rl_ HO_13.out hb; replace HO_415001 := Aside0.mk (Kd.V_below (by refine kv_ ?_; exact HO_415001.out) hb); replace HO_416001 := rl_ HO_416001.out hb; replace BK414 := bb_ BK414.out hb; replace BK415 := bb_ BK415.out hb; replace HB := hs_ hb; (try clear hb); (try clear hb2); (try clear hk); (try clear hi); (try clear ho0)))
           go_roundg k2
           case measure => have := HK1.out; have := HK2.out; omega
           case rel => exact ⟨(t427), (wrap64 (x16_2 + 1)), sm_, H', ⟨by have := HK1.out; have := HK2.out; omega⟩, ⟨by refine kv_ ?_; exact HO429.out⟩, ⟨rs_ HO_13.out⟩, ⟨by refine kv_ ?_; exact HO_415001.out⟩, ⟨rs_ HO_416001.out⟩, ⟨bq_ BK414.out⟩, ⟨bq_ BK415.out⟩, ⟨bl_⟩⟩
          ·rw [if_neg c36] at H
           have c36b0 : decide (0 ≤ t426) = false := decide_eq_false c36
           clear c36
           by_cases c42 : x13_1.length < 17592186044416
           ·rw [if_pos c42] at H
            have LMc42 := Aside0.mk c42
            clear c42
            obtain ⟨y430, hy430⟩ : ∃ y_ : List Int, y_ = (x13_1 ++ [x16_2]) := ⟨_, rfl⟩
            replace H : (paymasterref02_MulDiv.l0 k2 a3 x12_2 y430 (wrap64 (x14_1 - 1)) t406 t407 t410 t411) = some (r1, r2) := by first | (rw [hy430]; with_reducible exact H) | (have H2_ := (Option.bind_some _ _).symm.trans H; rw [hy430]; with_reducible exact H2_) | (have H2_ := (Option.bind_some _ _).symm.trans H; with_reducible exact H2_) | with_reducible exact H | (rw [hy430]; exact H) | exact H
            have Ny430 := Aside0.mk hy430
            clear hy430
            have H' := Aside0.mk H
            clear H
            have hnb43 := NB415_414.out
            have hnc43 := NB414_415.out
            obtain ⟨hcz44_0, hcz44_1, hfz44_0, hfz44_1⟩ := c2_ BK415.out
            obtain ⟨Ao45, co45, eo45⟩ := Kd.V_slice HO_12.out
            subst eo45
            go_wp2_with (first | ((with_reducible refine gate_callee (f := 48) rfl ?_); refine goesL_ (some 52) rfl rfl Try.func48 (by kernel_rfl) rfl #[.slice Ao45 x12_2.length co45, .slice Ao21 t411.length co21] rfl ga_ ?_; (with_reducible refine (paymasterref02_size.calls k2 _ _ x12_2 _ _ t411 t426 _ ?side1 ?side2 ?side3 ?side4 A35.out).mono ?_); (case side1 => exact kc_ (Kd.V_reads' HO_12.out).2.2); (case side2 => exact (Kd.V_reads' HO_12.out).2.1); (case side3 => exact kc_ (Kd.R_reads' HO_416001.out).2.2); (case side4 => exact (Kd.R_reads' HO_416001.out).2.1); rintro e w' ⟨rfl, ⟨nd, rfl⟩⟩; refine ⟨_, rfl, ?_⟩) | ((with_reducible refine gate_builtin (b := .append) (xs := #[.tmp 60, .tmp 62]) rfl ?_); (try (refine gate_guard (by rfl) ?_; dsimp only)); at_builtin; refine Kd.R_append (Kd.int .i64) (w0 := w) w.heap.size rfl (.tmp 60) (.tmp 62) 28 3 (.int .i64 0) 8 rfl Try.underlying28 info3 rfl (by decide) (by omega) u13 x13_1 x16_2 [.int .i64 x16_2] (fun k_ => some k_ ≠ (.slice Ao21 t411.length co21 : Value).ownBlock) (fun _ => False) rfl rfl ?aP (fun _ hk => hk.elim) ?aF ?aO ?aB ?aS ?aL ?_; (case aP => exact rfl); (case aB => exact bl_); (case aF => exact (fun k_ hk => fr_ HO_416001.out hk)); (case aO => exact (rs_ HO_13.out)); (case aS => exact (below_size bl_)); (case aL => have := LMc42.out; omega); intro v431 w46 ho hb hg hat; rw [← Ny430.out] at ho; have HO432 := Aside0.mk (ho); replace HO_12 := Aside0.mk (Kd.V_afterv (ok := (fun k_ => some k_ ≠ (.slice Ao21 t411.length co21 : Value).ownBlock ∧ k_ ≠ gb414 ∧ k_ ≠ gb415)) (by refine kv_ ?_; exact Kd.V_mono HO_12.out (fun _ hk => ⟨⟨hk.2.1, ⟨hk.2.2.1, hk.2.2.2⟩⟩, hk.1⟩)) hg hat); replace HO_415001 := Aside0.mk (Kd.V_afterv (ok := (fun k_ => some k_ ≠ (.slice Ao21 t411.length co21 : Value).ownBlock ∧ k_ ≠ gb414 ∧ k_ ≠ gb415)) (by refine kv_ ?_; exact Kd.V_mono HO_415001.out (fun _ hk => ⟨⟨hk.2.1, ⟨hk.2.2.1, hk.2.2.2⟩⟩, hk.1⟩)) hg hat); replace HO_416001 := ra_ HO_416001.out hg hat; replace BK414 := bg_ BK414.out hg (Kd.R_ne HO_13.out BK414.out (by decide)); replace BK415 := bg_ BK415.out hg (Kd.R_ne HO_13.out BK415.out (by decide)); replace HB := Aside0.mk (hb); clear HO_13; clear ho hb hg hat))
            go_roundg k2
            case measure => have := HK1.out; have := HK2.out; omega
            case rel => exact ⟨(x12_2), (y430), (wrap64 (x14_1 - 1)), sm_, H', ⟨by have := HK1.out; have := HK2.out; omega⟩, ⟨by refine kv_ ?_; exact Kd.V_mono HO_12.out (fun _ hk => ⟨hk.2, ⟨hk.1.1, ⟨hk.1.2.1, hk.1.2.2⟩⟩⟩)⟩, ⟨rs_ HO432.out⟩, ⟨by refine kv_ ?_; exact Kd.V_mono HO_415001.out (fun _ hk => ⟨hk.2, ⟨hk.1.1, ⟨hk.1.2.1, hk.1.2.2⟩⟩⟩)⟩, ⟨rs_ HO_416001.out⟩, ⟨bq_ BK414.out⟩, ⟨bq_ BK415.out⟩, ⟨bl_⟩⟩
           ·rw [if_neg c42] at H
            exact absurd H (by simp)
       ·rw [if_neg c26] at H
        exact absurd H (by simp)
      ·rw [if_neg c25] at H
       exact absurd H (by simp)
     ·rw [if_neg c24] at H
      exact absurd H (by simp)
    ·rw [if_neg c23] at H
     exact absurd H (by simp)
   ·rw [if_neg c22] at H
    have c22b0 : decide (0 ≤ x14_1) = false := decide_eq_false c22
    clear c22
    have HC47 := Aside0.mk H
    clear H
    go_upto_region 14 with (fail)
    go_cut [17] (fun v17 wc => ∃ (kq : Nat) (x17_46 : Bool), v17 = .bool x17_46 ∧ Aside0 (paymasterref02_MulDiv.j2 kq a3 x12_1 x13_1 x17_46 t406 t407 t410 t411 = some (r1, r2)) ∧ Aside0 (kq ≤ k1) ∧ Aside0 (Kd.V (Kd.int .i64) 3 wc w.heap.size (fun k_ => some k_ ≠ (u13 : Value).ownBlock ∧ some k_ ≠ ((.slice Ao21 t411.length co21) : Value).ownBlock ∧ k_ ≠ gb414 ∧ k_ ≠ gb415) u12 x12_1) ∧ Aside0 (Kd.R (Kd.int .i64) 3 wc w.heap.size (fun k_ => some k_ ≠ ((.slice Ao21 t411.length co21) : Value).ownBlock) u13 x13_1) ∧ Aside0 (Kd.V (Kd.int .i64) 3 wc w.heap.size (fun k_ => some k_ ≠ (u13 : Value).ownBlock ∧ some k_ ≠ ((.slice Ao21 t411.length co21) : Value).ownBlock ∧ k_ ≠ gb414 ∧ k_ ≠ gb415) (.slice Ao19 t407.length co19) t407) ∧ Aside0 (Kd.R (Kd.int .i64) 3 wc w.heap.size (fun k_ => some k_ ≠ (u13 : Value).ownBlock) (.slice Ao21 t411.length co21) t411) ∧ Aside0 (wc.heap[gb414]? = some (.cells #[.bool t406, (.slice Ao19 t407.length co19)] 87 (0, 0))) ∧ Aside0 (wc.heap[gb415]? = some (.cells #[.bool t410, (.slice Ao21 t411.length co21)] 87 (0, 0))) ∧ Aside0 (Below w.heap.size w wc))
    case first =>
     have H := HC47.out
     clear HC47
     by_cases c48 : (x13_1.length : Int) > 0
     ·rw [if_pos c48] at H
      have c48b0 : decide (0 < (x13_1.length : Int)) = true := decide_eq_true c48
      have c48b1 : decide (0 < x13_1.length) = true := decide_eq_true (by omega)
      clear c48
      (first | rw [c48b0] | (simp only [i64_w, i32_w]; rw [c48b0]) | skip)
      obtain ⟨ji49, hji49⟩ : ∃ j_ : Int, (wrap64 ((x13_1.length : Int) - 1)) = j_ := ⟨_, rfl⟩
      replace H : (if 0 ≤ (ji49) then (if (ji49) < (x13_1.length : Int) then (paymasterref02_MulDiv.j2 k1 a3 x12_1 x13_1 ((Int.tmod (rd x13_1 (ji49)) 2) == 1) t406 t407 t410 t411) else (none)) else (none)) = some (r1, r2) := by first | (rw [hji49] at H; exact H) | (simp only [hji49] at H ⊢; exact H)
      have hji49w : (IntKind.i64.wrap ((x13_1.length : Int) - 1)) = ji49 := (i64_w _).trans hji49
      by_cases c50 : 0 ≤ (ji49)
      ·rw [if_pos c50] at H
       have c50b0 : decide (0 ≤ (ji49)) = true := decide_eq_true c50
       clear c50
       by_cases c51 : (ji49) < (x13_1.length : Int)
       ·rw [if_pos c51] at H
        have c51b0 : decide ((ji49) < (x13_1.length : Int)) = true := decide_eq_true c51
        clear c51
        have H' := Aside0.mk H
        clear H
        obtain ⟨Ao52, co52, eo52⟩ := Kd.R_slice HO_13.out
        subst eo52
        have p433 : 0 ≤ ((ji49) : Int) := od_
        have q433 : (ji49) < (x13_1.length : Int) := od_
        obtain ⟨ad433, e433, hx433_0⟩ := Kd.at_int (Kd.R_reads' HO_13.out).2.2 (ji49) p433 q433
        cases e433
        replace p433 := eq_true p433
        replace q433 := eq_true q433
        go_wp2
        go_meet
        case rel => exact ⟨_, (((Int.tmod (rd x13_1 (ji49)) 2) == 1)), (by first | rfl | (simp; done) | (simp only [← hji49] <;> (first | rfl | simp)) | (simp [*]; done)), H', ⟨by have := HK1.out; first | omega | exact Nat.le_refl _⟩, ⟨by refine kv_ ?_; exact HO_12.out⟩, ⟨rs_ HO_13.out⟩, ⟨by refine kv_ ?_; exact HO_415001.out⟩, ⟨rs_ HO_416001.out⟩, ⟨bq_ BK414.out⟩, ⟨bq_ BK415.out⟩, ⟨bl_⟩⟩
       ·rw [if_neg c51] at H
        exact absurd H (by simp)
      ·rw [if_neg c50] at H
       exact absurd H (by simp)
     ·rw [if_neg c48] at H
      have c48b0 : decide (0 < (x13_1.length : Int)) = false := decide_eq_false c48
      have c48b1 : decide (0 < x13_1.length) = false := decide_eq_false (by omega)
      clear c48
      (first | rw [c48b0] | (simp only [i64_w, i32_w]; rw [c48b0]) | skip)
      have H' := Aside0.mk H
      clear H
      obtain ⟨Ao53, co53, eo53⟩ := Kd.R_slice HO_13.out
      subst eo53
      go_wp2
      go_meet
      case rel => exact ⟨_, (false), sm_, H', ⟨by have := HK1.out; first | omega | exact Nat.le_refl _⟩, ⟨by refine kv_ ?_; exact HO_12.out⟩, ⟨rs_ HO_13.out⟩, ⟨by refine kv_ ?_; exact HO_415001.out⟩, ⟨rs_ HO_416001.out⟩, ⟨bq_ BK414.out⟩, ⟨bq_ BK415.out⟩, ⟨bl_⟩⟩
    case rest =>
     clear HC47
     try clear c22; try clear c22b0; try clear hcz18_0; try clear hcz18_1; try clear hcz20_0; try clear hcz20_1; try clear hfz18_0; try clear hfz18_1; try clear hfz20_0; try clear hfz20_1
     obtain ⟨kq, x17_46, rfl, HA, HJ46, HO_12, HO_13, HO_415001, HO_416001, BK414, BK415, HB⟩ := hcut
     cases kq with
     | zero => exact absurd HA.out (by simp [paymasterref02_MulDiv.j2])
     | succ kj46 =>
      have H := HA.out
      clear HA
      simp only [paymasterref02_MulDiv.j2] at H
      replace H := Option.bind_eq_some_iff.mp H
      obtain ⟨t434, A540, H⟩ := H
      (try dsimp only at H)
      have A54 := Aside0.mk A540
      clear A540
      replace H := Option.bind_eq_some_iff.mp H
      obtain ⟨t437, A550, H⟩ := H
      (try dsimp only at H)
      have A55 := Aside0.mk A550
      clear A550
      have HC56 := Aside0.mk H
      clear H
      try go_wp2
      replace HO_12 := Aside0.mk (Kd.V_drew HO_12.out)
      replace HO_13 := Aside0.mk (Kd.R_drew HO_13.out)
      replace HO_415001 := Aside0.mk (Kd.V_drew HO_415001.out)
      replace HO_416001 := Aside0.mk (Kd.R_drew HO_416001.out)
      replace BK414 := Aside0.mk (blk_drew BK414.out)
      replace BK415 := Aside0.mk (blk_drew BK415.out)
      replace HB := Aside0.mk (below_drew1 HB.out)
      obtain ⟨Ao58, co58, eo58⟩ := Kd.V_slice HO_12.out
      (first | subst eo58 | (injection eo58 with f1_ f2_ f3_; have f4_ := f1_.symm; have f5_ := f3_.symm; clear f1_ f2_ f3_; subst f4_; subst f5_))
      refine start_ (n := 6) (S := fun w' => w'.cell? ⟨gb415, 0, none⟩ = some (.bool t410) ∧ w'.cell? ⟨gb415, 1, none⟩ = some (.slice Ao21 t411.length co21)) (ds := []) #[false, false, false, false, false, false] (by kernel_rfl) rfl rfl ⟨(blk_cell BK415.out 0).trans rfl, (blk_cell BK415.out 1).trans rfl⟩ (fun hHeld => ?_)
      generalize wc.drew = w57 at HO_12 HO_13 HO_415001 HO_416001 BK414 BK415 HB hHeld ⊢
      refine pure_ (i := 0) (N := some 77) (v := ?_) (a' := ?_) #[true, false, false, false, false, false] rfl rfl (by kernel_rfl) (fun _ _ _ h => h) (Or.inl ⟨by rfl, ?_⟩) ?_ ?_
      rotate_left
      ·intro w'
       go_simp
       with_reducible rfl
      rotate_left
      ·simp only [Act.put, List.setIfInBounds_toArray, List.set_cons_zero, List.set_cons_succ, i64_w, i32_w]
       rfl
      refine pure_ (i := 2) (N := some 79) (v := ?_) (a' := ?_) #[true, false, true, false, false, false] rfl rfl (by kernel_rfl) (fun _ _ _ h => h) (Or.inl ⟨by rfl, ?_⟩) ?_ ?_
      rotate_left
      ·intro w'
       go_simp
       with_reducible rfl
      rotate_left
      ·simp only [Act.put, List.setIfInBounds_toArray, List.set_cons_zero, List.set_cons_succ, i64_w, i32_w]
       rfl
      refine take_ (i := 3) (N := some 80) (v := ?_) (a' := ?_) #[true, false, true, true, false, false] rfl rfl (by kernel_rfl) (fun _ _ _ h => h) (Or.inl ⟨by rfl, ?_⟩) hHeld ?_ ?_
      rotate_left
      ·rintro w' ⟨s0, s1⟩
       go_simp
       with_reducible rfl
      rotate_left
      ·simp only [Act.put, List.setIfInBounds_toArray, List.set_cons_zero, List.set_cons_succ, i64_w, i32_w]
       rfl
      refine one_ (i := 1) (N := some 78) #[true, true, true, true, false, false] rfl rfl (by kernel_rfl) (by decide) (fun K hK => ?_)
      refine goes_ Try.func50 (by kernel_rfl) rfl #[.slice Ao58 x12_1.length co58] (by rfl) rfl rfl ga_ ?_
      with_reducible refine (paymasterref02_double.calls kj46 _ _ x12_1 t434 _ ?side1 ?side2 A54.out).mono ?_
      (case side1 => exact kc_ (Kd.V_reads' HO_12.out).2.2)
      (case side2 => exact (Kd.V_reads' HO_12.out).2.1)
      rintro e w59 ⟨v435, rfl, ho0, hb⟩
      refine ⟨_, rfl, ?_⟩
      have HO436 := Aside0.mk (Kd.V_lower (Kd.V_mono (ok' := fun k_ => some k_ ≠ (u13 : Value).ownBlock ∧ some k_ ≠ (.slice Ao21 t411.length co21 : Value).ownBlock ∧ k_ ≠ gb414 ∧ k_ ≠ gb415) ho0 (fun k_ hk_ => ⟨(Kd.fresh' (Kd.R_lt (rq_ HO_13.out)) k_ hk_), (Kd.fresh' (Kd.R_lt (rq_ HO_416001.out)) k_ hk_), (Kd.freshB (g := gb414) (o := .cells #[.bool t406, .slice Ao19 t407.length co19] 87 (0, 0)) (bq_ BK414.out) k_ hk_), (Kd.freshB (g := gb415) (o := .cells #[.bool t410, .slice Ao21 t411.length co21] 87 (0, 0)) (bq_ BK415.out) k_ hk_)⟩)) (below_size bl_))
      replace HO_12 := Aside0.mk (Kd.V_below (by refine kv_ ?_; exact HO_12.out) hb)
      replace HO_13 := rl_ HO_13.out hb
      replace HO_415001 := Aside0.mk (Kd.V_below (by refine kv_ ?_; exact HO_415001.out) hb)
      replace HO_416001 := rl_ HO_416001.out hb
      replace BK414 := bb_ BK414.out hb
      replace BK415 := bb_ BK415.out hb
      replace HB := hs_ hb
      (try clear hb)
      (try clear hb2)
      (try clear hk)
      (try clear hi)
      (try clear ho0)
      obtain ⟨Ao60, co60, eo60⟩ := Kd.V_slice HO436.out
      (first | subst eo60 | (injection eo60 with f1_ f2_ f3_; have f4_ := f1_.symm; have f5_ := f3_.symm; clear f1_ f2_ f3_; subst f4_; subst f5_))
      refine hK.out _ _ ⟨(blk_cell BK415.out 0).trans rfl, (blk_cell BK415.out 1).trans rfl⟩ (fun hHeld => ?_)
      clear hK K
      refine norm_ (a' := ?_) ?_ ?_
      rotate_left
      ·show Act.put _ (some 78) _ = _
       simp only [Act.put, List.setIfInBounds_toArray, List.set_cons_zero, List.set_cons_succ, i64_w, i32_w]
       rfl
      refine one_ (i := 4) (N := some 81) #[true, true, true, true, true, false] rfl rfl (by kernel_rfl) (by decide) (fun K hK => ?_)
      refine goes_ Try.func48 (by kernel_rfl) rfl #[.slice Ao60 t434.length co60, .slice Ao21 t411.length co21] (by rfl) rfl rfl ga_ ?_
      with_reducible refine (paymasterref02_size.calls kj46 _ _ t434 _ _ t411 t437 _ ?side1 ?side2 ?side3 ?side4 A55.out).mono ?_
      (case side1 => exact kc_ (Kd.V_reads' HO436.out).2.2)
      (case side2 => exact (Kd.V_reads' HO436.out).2.1)
      (case side3 => exact kc_ (Kd.R_reads' HO_416001.out).2.2)
      (case side4 => exact (Kd.R_reads' HO_416001.out).2.1)
      rintro e w' ⟨rfl, ⟨nd, rfl⟩⟩
      refine ⟨_, rfl, ?_⟩
      refine hK.out _ _ ⟨(blk_cell BK415.out 0).trans rfl, (blk_cell BK415.out 1).trans rfl⟩ (fun hHeld => ?_)
      clear hK K
      refine norm_ (a' := ?_) ?_ ?_
      rotate_left
      ·show Act.put _ (some 81) _ = _
       simp only [Act.put, List.setIfInBounds_toArray, List.set_cons_zero, List.set_cons_succ, i64_w, i32_w]
       rfl
      refine pure_ (i := 5) (N := some 18) (v := ?_) (a' := ?_) #[true, true, true, true, true, true] rfl rfl (by kernel_rfl) (fun _ _ _ h => h) (Or.inl ⟨by rfl, ?_⟩) ?_ ?_
      rotate_left
      ·intro w'
       go_simp
       with_reducible rfl
      rotate_left
      ·simp only [Act.put, List.setIfInBounds_toArray, List.set_cons_zero, List.set_cons_succ, i64_w, i32_w]
       rfl
      refine done_ (by kernel_rfl) ?_
      go_upto_region 16 with (fail)
      go_cut [19] (fun v19 wc => ∃ (kq : Nat) (x19_55 : Bool), v19 = .bool x19_55 ∧ Aside0 (paymasterref02_MulDiv.j3 kq x13_1 x19_55 t406 t407 t410 t411 = some (r1, r2)) ∧ Aside0 (kq ≤ kj46) ∧ Aside0 (Kd.R (Kd.int .i64) 3 wc w.heap.size (fun k_ => some k_ ≠ ((.slice Ao21 t411.length co21) : Value).ownBlock) u13 x13_1) ∧ Aside0 (Kd.V (Kd.int .i64) 3 wc w.heap.size (fun k_ => some k_ ≠ (u13 : Value).ownBlock ∧ some k_ ≠ ((.slice Ao21 t411.length co21) : Value).ownBlock ∧ k_ ≠ gb414 ∧ k_ ≠ gb415) (.slice Ao19 t407.length co19) t407) ∧ Aside0 (Kd.R (Kd.int .i64) 3 wc w.heap.size (fun k_ => some k_ ≠ (u13 : Value).ownBlock) (.slice Ao21 t411.length co21) t411) ∧ Aside0 (wc.heap[gb414]? = some (.cells #[.bool t406, (.slice Ao19 t407.length co19)] 87 (0, 0))) ∧ Aside0 (wc.heap[gb415]? = some (.cells #[.bool t410, (.slice Ao21 t411.length co21)] 87 (0, 0))) ∧ Aside0 (Below w.heap.size w wc))
      case first =>
       have H := HC56.out
       clear HC56
       by_cases c61 : a3 = 1
       ·rw [if_pos c61] at H
        have c61b0 : (a3 == 1) = true := beq_iff_eq.mpr c61
        have c61b1 : (a3 != 1) = false := bne_eq_false_iff_eq.mpr c61
        clear c61
        (first | rw [c61b0] | (simp only [i64_w, i32_w]; rw [c61b0]) | skip)
        by_cases c62 : (x12_1.length : Int) > 0
        ·rw [if_pos c62] at H
         have c62b0 : decide (0 < (x12_1.length : Int)) = true := decide_eq_true c62
         have c62b1 : decide (0 < x12_1.length) = true := decide_eq_true (by omega)
         clear c62
         have H' := Aside0.mk H
         clear H
         go_wp2
         go_meet
         case rel => exact ⟨_, (true), sm_, H', ⟨by have := HK1.out; have := HJ46.out; first | omega | exact Nat.le_refl _⟩, ⟨rs_ HO_13.out⟩, ⟨by refine kv_ ?_; exact HO_415001.out⟩, ⟨rs_ HO_416001.out⟩, ⟨bq_ BK414.out⟩, ⟨bq_ BK415.out⟩, ⟨bl_⟩⟩
        ·rw [if_neg c62] at H
         have c62b0 : decide (0 < (x12_1.length : Int)) = false := decide_eq_false c62
         have c62b1 : decide (0 < x12_1.length) = false := decide_eq_false (by omega)
         clear c62
         by_cases c63 : a3 > 1
         ·rw [if_pos c63] at H
          have c63b0 : decide (1 < a3) = true := decide_eq_true c63
          clear c63
          by_cases c64 : t437 > 0
          ·rw [if_pos c64] at H
           have c64b0 : decide (0 < t437) = true := decide_eq_true c64
           clear c64
           have H' := Aside0.mk H
           clear H
           go_wp2
           go_meet
           case rel => exact ⟨_, (true), sm_, H', ⟨by have := HK1.out; have := HJ46.out; first | omega | exact Nat.le_refl _⟩, ⟨rs_ HO_13.out⟩, ⟨by refine kv_ ?_; exact HO_415001.out⟩, ⟨rs_ HO_416001.out⟩, ⟨bq_ BK414.out⟩, ⟨bq_ BK415.out⟩, ⟨bl_⟩⟩
          ·rw [if_neg c64] at H
           have c64b0 : decide (0 < t437) = false := decide_eq_false c64
           clear c64
           by_cases c65 : t437 = 0
           ·rw [if_pos c65] at H
            have c65b0 : (t437 == 0) = true := beq_iff_eq.mpr c65
            have c65b1 : (t437 != 0) = false := bne_eq_false_iff_eq.mpr c65
            clear c65
            by_cases c66 : a3 = 2
            ·rw [if_pos c66] at H
             have c66b0 : (a3 == 2) = true := beq_iff_eq.mpr c66
             have c66b1 : (a3 != 2) = false := bne_eq_false_iff_eq.mpr c66
             clear c66
             have H' := Aside0.mk H
             clear H
             go_wp2
             go_meet
             case rel => exact ⟨_, (true), sm_, H', ⟨by have := HK1.out; have := HJ46.out; first | omega | exact Nat.le_refl _⟩, ⟨rs_ HO_13.out⟩, ⟨by refine kv_ ?_; exact HO_415001.out⟩, ⟨rs_ HO_416001.out⟩, ⟨bq_ BK414.out⟩, ⟨bq_ BK415.out⟩, ⟨bl_⟩⟩
            ·rw [if_neg c66] at H
             have c66b0 : (a3 == 2) = false := beq_eq_false_iff_ne.mpr c66
             have c66b1 : (a3 != 2) = true := bne_iff_ne.mpr c66
             by_cases c67 : a3 = 3
             ·rw [if_pos c67] at H
              have c67b0 : (a3 == 3) = true := beq_iff_eq.mpr c67
              have c67b1 : (a3 != 3) = false := bne_eq_false_iff_eq.mpr c67
              clear c67
              have H' := Aside0.mk H
              clear H
              go_wp2
              go_meet
              case rel => exact ⟨_, (x17_46), sm_, H', ⟨by have := HK1.out; have := HJ46.out; first | omega | exact Nat.le_refl _⟩, ⟨rs_ HO_13.out⟩, ⟨by refine kv_ ?_; exact HO_415001.out⟩, ⟨rs_ HO_416001.out⟩, ⟨bq_ BK414.out⟩, ⟨bq_ BK415.out⟩, ⟨bl_⟩⟩
             ·rw [if_neg c67] at H
              have c67b0 : (a3 == 3) = false := beq_eq_false_iff_ne.mpr c67
              have c67b1 : (a3 != 3) = true := bne_iff_ne.mpr c67
              have H' := Aside0.mk H
              clear H
              go_wp2
              go_meet
              case rel => exact ⟨_, (false), sm_, H', ⟨by have := HK1.out; have := HJ46.out; first | omega | exact Nat.le_refl _⟩, ⟨rs_ HO_13.out⟩, ⟨by refine kv_ ?_; exact HO_415001.out⟩, ⟨rs_ HO_416001.out⟩, ⟨bq_ BK414.out⟩, ⟨bq_ BK415.out⟩, ⟨bl_⟩⟩
           ·rw [if_neg c65] at H
            have c65b0 : (t437 == 0) = false := beq_eq_false_iff_ne.mpr c65
            have c65b1 : (t437 != 0) = true := bne_iff_ne.mpr c65
            have H' := Aside0.mk H
            clear H
            go_wp2
            go_meet
            case rel => exact ⟨_, (false), sm_, H', ⟨by have := HK1.out; have := HJ46.out; first | omega | exact Nat.le_refl _⟩, ⟨rs_ HO_13.out⟩, ⟨by refine kv_ ?_; exact HO_415001.out⟩, ⟨rs_ HO_416001.out⟩, ⟨bq_ BK414.out⟩, ⟨bq_ BK415.out⟩, ⟨bl_⟩⟩
         ·rw [if_neg c63] at H
          have c63b0 : decide (1 < a3) = false := decide_eq_false c63
          clear c63
          by_cases c68 : t437 = 0
          ·rw [if_pos c68] at H
           have c68b0 : (t437 == 0) = true := beq_iff_eq.mpr c68
           have c68b1 : (t437 != 0) = false := bne_eq_false_iff_eq.mpr c68
           clear c68
           by_cases c69 : a3 = 2
           ·rw [if_pos c69] at H
            have c69b0 : (a3 == 2) = true := beq_iff_eq.mpr c69
            have c69b1 : (a3 != 2) = false := bne_eq_false_iff_eq.mpr c69
            clear c69
            have H' := Aside0.mk H
            clear H
            go_wp2
            go_meet
            case rel => exact ⟨_, (true), sm_, H', ⟨by have := HK1.out; have := HJ46.out; first | omega | exact Nat.le_refl _⟩, ⟨rs_ HO_13.out⟩, ⟨by refine kv_ ?_; exact HO_415001.out⟩, ⟨rs_ HO_416001.out⟩, ⟨bq_ BK414.out⟩, ⟨bq_ BK415.out⟩, ⟨bl_⟩⟩
           ·rw [if_neg c69] at H
            have c69b0 : (a3 == 2) = false := beq_eq_false_iff_ne.mpr c69
            have c69b1 : (a3 != 2) = true := bne_iff_ne.mpr c69
            by_cases c70 : a3 = 3
            ·rw [if_pos c70] at H
             have c70b0 : (a3 == 3) = true := beq_iff_eq.mpr c70
             have c70b1 : (a3 != 3) = false := bne_eq_false_iff_eq.mpr c70
             clear c70
             have H' := Aside0.mk H
             clear H
             go_wp2
             go_meet
             case rel => exact ⟨_, (x17_46), sm_, H', ⟨by have := HK1.out; have := HJ46.out; first | omega | exact Nat.le_refl _⟩, ⟨rs_ HO_13.out⟩, ⟨by refine kv_ ?_; exact HO_415001.out⟩, ⟨rs_ HO_416001.out⟩, ⟨bq_ BK414.out⟩, ⟨bq_ BK415.out⟩, ⟨bl_⟩⟩
            ·rw [if_neg c70] at H
             have c70b0 : (a3 == 3) = false := beq_eq_false_iff_ne.mpr c70
             have c70b1 : (a3 != 3) = true := bne_iff_ne.mpr c70
             have H' := Aside0.mk H
             clear H
             go_wp2
             go_meet
             case rel => exact ⟨_, (false), sm_, H', ⟨by have := HK1.out; have := HJ46.out; first | omega | exact Nat.le_refl _⟩, ⟨rs_ HO_13.out⟩, ⟨by refine kv_ ?_; exact HO_415001.out⟩, ⟨rs_ HO_416001.out⟩, ⟨bq_ BK414.out⟩, ⟨bq_ BK415.out⟩, ⟨bl_⟩⟩
          ·rw [if_neg c68] at H
           have c68b0 : (t437 == 0) = false := beq_eq_false_iff_ne.mpr c68
           have c68b1 : (t437 != 0) = true := bne_iff_ne.mpr c68
           have H' := Aside0.mk H
           clear H
           go_wp2
           go_meet
           case rel => exact ⟨_, (false), sm_, H', ⟨by have := HK1.out; have := HJ46.out; first | omega | exact Nat.le_refl _⟩, ⟨rs_ HO_13.out⟩, ⟨by refine kv_ ?_; exact HO_415001.out⟩, ⟨rs_ HO_416001.out⟩, ⟨bq_ BK414.out⟩, ⟨bq_ BK415.out⟩, ⟨bl_⟩⟩
       ·rw [if_neg c61] at H
        have c61b0 : (a3 == 1) = false := beq_eq_false_iff_ne.mpr c61
        have c61b1 : (a3 != 1) = true := bne_iff_ne.mpr c61
        (first | rw [c61b0] | (simp only [i64_w, i32_w]; rw [c61b0]) | skip)
        by_cases c71 : a3 > 1
        ·rw [if_pos c71] at H
         have c71b0 : decide (1 < a3) = true := decide_eq_true c71
         clear c71
         by_cases c72 : t437 > 0
         ·rw [if_pos c72] at H
          have c72b0 : decide (0 < t437) = true := decide_eq_true c72
          clear c72
          have H' := Aside0.mk H
          clear H
          go_wp2
          go_meet
          case rel => exact ⟨_, (true), sm_, H', ⟨by have := HK1.out; have := HJ46.out; first | omega | exact Nat.le_refl _⟩, ⟨rs_ HO_13.out⟩, ⟨by refine kv_ ?_; exact HO_415001.out⟩, ⟨rs_ HO_416001.out⟩, ⟨bq_ BK414.out⟩, ⟨bq_ BK415.out⟩, ⟨bl_⟩⟩
         ·rw [if_neg c72] at H
          have c72b0 : decide (0 < t437) = false := decide_eq_false c72
          clear c72
          by_cases c73 : t437 = 0
          ·rw [if_pos c73] at H
           have c73b0 : (t437 == 0) = true := beq_iff_eq.mpr c73
           have c73b1 : (t437 != 0) = false := bne_eq_false_iff_eq.mpr c73
           clear c73
           by_cases c74 : a3 = 2
           ·rw [if_pos c74] at H
            have c74b0 : (a3 == 2) = true := beq_iff_eq.mpr c74
            have c74b1 : (a3 != 2) = false := bne_eq_false_iff_eq.mpr c74
            clear c74
            have H' := Aside0.mk H
            clear H
            go_wp2
            go_meet
            case rel => exact ⟨_, (true), sm_, H', ⟨by have := HK1.out; have := HJ46.out; first | omega | exact Nat.le_refl _⟩, ⟨rs_ HO_13.out⟩, ⟨by refine kv_ ?_; exact HO_415001.out⟩, ⟨rs_ HO_416001.out⟩, ⟨bq_ BK414.out⟩, ⟨bq_ BK415.out⟩, ⟨bl_⟩⟩
           ·rw [if_neg c74] at H
            have c74b0 : (a3 == 2) = false := beq_eq_false_iff_ne.mpr c74
            have c74b1 : (a3 != 2) = true := bne_iff_ne.mpr c74
            by_cases c75 : a3 = 3
            ·rw [if_pos c75] at H
             have c75b0 : (a3 == 3) = true := beq_iff_eq.mpr c75
             have c75b1 : (a3 != 3) = false := bne_eq_false_iff_eq.mpr c75
             clear c75
             have H' := Aside0.mk H
             clear H
             go_wp2
             go_meet
             case rel => exact ⟨_, (x17_46), sm_, H', ⟨by have := HK1.out; have := HJ46.out; first | omega | exact Nat.le_refl _⟩, ⟨rs_ HO_13.out⟩, ⟨by refine kv_ ?_; exact HO_415001.out⟩, ⟨rs_ HO_416001.out⟩, ⟨bq_ BK414.out⟩, ⟨bq_ BK415.out⟩, ⟨bl_⟩⟩
            ·rw [if_neg c75] at H
             have c75b0 : (a3 == 3) = false := beq_eq_false_iff_ne.mpr c75
             have c75b1 : (a3 != 3) = true := bne_iff_ne.mpr c75
             have H' := Aside0.mk H
             clear H
             go_wp2
             go_meet
             case rel => exact ⟨_, (false), sm_, H', ⟨by have := HK1.out; have := HJ46.out; first | omega | exact Nat.le_refl _⟩, ⟨rs_ HO_13.out⟩, ⟨by refine kv_ ?_; exact HO_415001.out⟩, ⟨rs_ HO_416001.out⟩, ⟨bq_ BK414.out⟩, ⟨bq_ BK415.out⟩, ⟨bl_⟩⟩
          ·rw [if_neg c73] at H
           have c73b0 : (t437 == 0) = false := beq_eq_false_iff_ne.mpr c73
           have c73b1 : (t437 != 0) = true := bne_iff_ne.mpr c73
           have H' := Aside0.mk H
           clear H
           go_wp2
           go_meet
           case rel => exact ⟨_, (false), sm_, H', ⟨by have := HK1.out; have := HJ46.out; first | omega | exact Nat.le_refl _⟩, ⟨rs_ HO_13.out⟩, ⟨by refine kv_ ?_; exact HO_415001.out⟩, ⟨rs_ HO_416001.out⟩, ⟨bq_ BK414.out⟩, ⟨bq_ BK415.out⟩, ⟨bl_⟩⟩
        ·rw [if_neg c71] at H
         have c71b0 : decide (1 < a3) = false := decide_eq_false c71
         clear c71
         by_cases c76 : t437 = 0
         ·rw [if_pos c76] at H
          have c76b0 : (t437 == 0) = true := beq_iff_eq.mpr c76
          have c76b1 : (t437 != 0) = false := bne_eq_false_iff_eq.mpr c76
          clear c76
          by_cases c77 : a3 = 2
          ·rw [if_pos c77] at H
           have c77b0 : (a3 == 2) = true := beq_iff_eq.mpr c77
           have c77b1 : (a3 != 2) = false := bne_eq_false_iff_eq.mpr c77
           clear c77
           have H' := Aside0.mk H
           clear H
           go_wp2
           go_meet
           case rel => exact ⟨_, (true), sm_, H', ⟨by have := HK1.out; have := HJ46.out; first | omega | exact Nat.le_refl _⟩, ⟨rs_ HO_13.out⟩, ⟨by refine kv_ ?_; exact HO_415001.out⟩, ⟨rs_ HO_416001.out⟩, ⟨bq_ BK414.out⟩, ⟨bq_ BK415.out⟩, ⟨bl_⟩⟩
          ·rw [if_neg c77] at H
           have c77b0 : (a3 == 2) = false := beq_eq_false_iff_ne.mpr c77
           have c77b1 : (a3 != 2) = true := bne_iff_ne.mpr c77
           by_cases c78 : a3 = 3
           ·rw [if_pos c78] at H
            have c78b0 : (a3 == 3) = true := beq_iff_eq.mpr c78
            have c78b1 : (a3 != 3) = false := bne_eq_false_iff_eq.mpr c78
            clear c78
            have H' := Aside0.mk H
            clear H
            go_wp2
            go_meet
            case rel => exact ⟨_, (x17_46), sm_, H', ⟨by have := HK1.out; have := HJ46.out; first | omega | exact Nat.le_refl _⟩, ⟨rs_ HO_13.out⟩, ⟨by refine kv_ ?_; exact HO_415001.out⟩, ⟨rs_ HO_416001.out⟩, ⟨bq_ BK414.out⟩, ⟨bq_ BK415.out⟩, ⟨bl_⟩⟩
           ·rw [if_neg c78] at H
            have c78b0 : (a3 == 3) = false := beq_eq_false_iff_ne.mpr c78
            have c78b1 : (a3 != 3) = true := bne_iff_ne.mpr c78
            have H' := Aside0.mk H
            clear H
            go_wp2
            go_meet
            case rel => exact ⟨_, (false), sm_, H', ⟨by have := HK1.out; have := HJ46.out; first | omega | exact Nat.le_refl _⟩, ⟨rs_ HO_13.out⟩, ⟨by refine kv_ ?_; exact HO_415001.out⟩, ⟨rs_ HO_416001.out⟩, ⟨bq_ BK414.out⟩, ⟨bq_ BK415.out⟩, ⟨bl_⟩⟩
         ·rw [if_neg c76] at H
          have c76b0 : (t437 == 0) = false := beq_eq_false_iff_ne.mpr c76
          have c76b1 : (t437 != 0) = true := bne_iff_ne.mpr c76
          have H' := Aside0.mk H
          clear H
          go_wp2
          go_meet
          case rel => exact ⟨_, (false), sm_, H', ⟨by have := HK1.out; have := HJ46.out; first | omega | exact Nat.le_refl _⟩, ⟨rs_ HO_13.out⟩, ⟨by refine kv_ ?_; exact HO_415001.out⟩, ⟨rs_ HO_416001.out⟩, ⟨bq_ BK414.out⟩, ⟨bq_ BK415.out⟩, ⟨bl_⟩⟩
      case rest =>
       clear HC56
       try clear c22; try clear c22b0; try clear hcz18_0; try clear hcz18_1; try clear hcz20_0; try clear hcz20_1; try clear hfz18_0; try clear hfz18_1; try clear hfz20_0; try clear hfz20_1
       obtain ⟨kq, x19_55, rfl, HA, HJ55, HO_13, HO_415001, HO_416001, BK414, BK415, HB⟩ := hcut
       cases kq with
       | zero => exact absurd HA.out (by simp [paymasterref02_MulDiv.j3])
       | succ kj55 =>
        have H := HA.out
        clear HA
        simp only [paymasterref02_MulDiv.j3] at H
        have H' := Aside0.mk H
        clear H
        go_wp2
        go_loopg [20, 21] kj55 (fun kq v20 v21 w' => ∃ (x20_4 : Int) (x21_4 : Int), v20 = .int .i64 x20_4 ∧ v21 = .int .i64 x21_4 ∧ Aside0 (paymasterref02_MulDiv.l2 kq x13_1 x19_55 x20_4 x21_4 t406 t407 t410 t411 = some (r1, r2)) ∧ Aside0 (kq ≤ kj55) ∧ Aside0 (Kd.R (Kd.int .i64) 3 w' w.heap.size (fun k_ => some k_ ≠ ((.slice Ao21 t411.length co21) : Value).ownBlock) u13 x13_1) ∧ Aside0 (Kd.V (Kd.int .i64) 3 w' w.heap.size (fun k_ => some k_ ≠ (u13 : Value).ownBlock ∧ some k_ ≠ ((.slice Ao21 t411.length co21) : Value).ownBlock ∧ k_ ≠ gb414 ∧ k_ ≠ gb415) (.slice Ao19 t407.length co19) t407) ∧ Aside0 (Kd.R (Kd.int .i64) 3 w' w.heap.size (fun k_ => some k_ ≠ (u13 : Value).ownBlock) (.slice Ao21 t411.length co21) t411) ∧ Aside0 (w'.heap[gb414]? = some (.cells #[.bool t406, (.slice Ao19 t407.length co19)] 87 (0, 0))) ∧ Aside0 (w'.heap[gb415]? = some (.cells #[.bool t410, (.slice Ao21 t411.length co21)] 87 (0, 0))) ∧ Aside0 (Below w.heap.size w w'))
        case atStart => exact ⟨(0), (0), sm_, sm_, H', ⟨Nat.le_refl _⟩, ⟨rs_ HO_13.out⟩, ⟨by refine kv_ ?_; exact HO_415001.out⟩, ⟨rs_ HO_416001.out⟩, ⟨bq_ BK414.out⟩, ⟨bq_ BK415.out⟩, ⟨bl_⟩⟩
        case round =>
         clear H'
         try clear c22; try clear c22b0; try clear hcz18_0; try clear hcz18_1; try clear hcz20_0; try clear hcz20_1; try clear hfz18_0; try clear hfz18_1; try clear hfz20_0; try clear hfz20_1
         obtain ⟨x20_4, x21_4, rfl, rfl, HA, HK4, HO_13, HO_415001, HO_416001, BK414, BK415, HB⟩ := hrel
         cases gk with
         | zero => exact absurd HA.out (by simp [paymasterref02_MulDiv.l2])
         | succ k4 =>
          have H := HA.out
          clear HA
          simp only [paymasterref02_MulDiv.l2] at H
          by_cases c79 : x21_4 < (x13_1.length : Int)
          ·rw [if_pos c79] at H
           have c79b0 : decide (x21_4 < (x13_1.length : Int)) = true := decide_eq_true c79
           clear c79
           by_cases c80 : 0 ≤ x21_4
           ·rw [if_pos c80] at H
            have c80b0 : decide (0 ≤ x21_4) = true := decide_eq_true c80
            clear c80
            by_cases c81 : x20_4 > (wrap64 (Int.tdiv (wrap64 (9223372036854775807 - (rd x13_1 x21_4))) 10))
            ·rw [if_pos c81] at H
             have c81b0 : decide ((wrap64 (Int.tdiv (wrap64 (9223372036854775807 - (rd x13_1 x21_4))) 10)) < x20_4) = true := decide_eq_true c81
             clear c81
             simp only [Option.some.injEq, Prod.mk.injEq] at H
             obtain ⟨rfl, rfl⟩ := H
             obtain ⟨Ao82, co82, eo82⟩ := Kd.R_slice HO_13.out
             subst eo82
             have p438 : 0 ≤ (x21_4 : Int) := od_
             have q438 : x21_4 < (x13_1.length : Int) := od_
             obtain ⟨ad438, e438, hx438_0⟩ := Kd.at_int (Kd.R_reads' HO_13.out).2.2 x21_4 p438 q438
             cases e438
             replace p438 := eq_true p438
             replace q438 := eq_true q438
             go_wp2
             go_ret2
             exact ⟨se_, bl_⟩
            ·rw [if_neg c81] at H
             have c81b0 : decide ((wrap64 (Int.tdiv (wrap64 (9223372036854775807 - (rd x13_1 x21_4))) 10)) < x20_4) = false := decide_eq_false c81
             clear c81
             have H' := Aside0.mk H
             clear H
             obtain ⟨Ao83, co83, eo83⟩ := Kd.R_slice HO_13.out
             subst eo83
             have p438 : 0 ≤ (x21_4 : Int) := od_
             have q438 : x21_4 < (x13_1.length : Int) := od_
             obtain ⟨ad438, e438, hx438_0⟩ := Kd.at_int (Kd.R_reads' HO_13.out).2.2 x21_4 p438 q438
             cases e438
             replace p438 := eq_true p438
             replace q438 := eq_true q438
             have p439 : 0 ≤ (x21_4 : Int) := od_
             have q439 : x21_4 < (x13_1.length : Int) := od_
             obtain ⟨ad439, e439, hx439_0⟩ := Kd.at_int (Kd.R_reads' HO_13.out).2.2 x21_4 p439 q439
             obtain rfl : ad438 = ad439 := (by injection e439)
             replace p439 := eq_true p439
             replace q439 := eq_true q439
             go_wp2
             go_roundg k4
             case measure => have := HK1.out; have := HJ46.out; have := HJ55.out; have := HK4.out; omega
             case rel => exact ⟨(wrap64 ((wrap64 (10 * x20_4)) + (rd x13_1 x21_4))), (wrap64 (x21_4 + 1)), sm_, sm_, H', ⟨by have := HK1.out; have := HJ46.out; have := HJ55.out; have := HK4.out; omega⟩, ⟨rs_ HO_13.out⟩, ⟨by refine kv_ ?_; exact HO_415001.out⟩, ⟨rs_ HO_416001.out⟩, ⟨bq_ BK414.out⟩, ⟨bq_ BK415.out⟩, ⟨bl_⟩⟩
           ·rw [if_neg c80] at H
            exact absurd H (by simp)
          ·rw [if_neg c79] at H
           have c79b0 : decide (x21_4 < (x13_1.length : Int)) = false := decide_eq_false c79
           clear c79
           by_cases c84 : x19_55 = true
           ·subst c84
            rw [if_pos rfl] at H
            by_cases c85 : x20_4 = 9223372036854775807
            ·rw [if_pos c85] at H
             have c85b0 : (x20_4 == 9223372036854775807) = true := beq_iff_eq.mpr c85
             have c85b1 : (x20_4 != 9223372036854775807) = false := bne_eq_false_iff_eq.mpr c85
             clear c85
             simp only [Option.some.injEq, Prod.mk.injEq] at H
             obtain ⟨rfl, rfl⟩ := H
             obtain ⟨Ao86, co86, eo86⟩ := Kd.R_slice HO_13.out
             subst eo86
             go_wp2
             go_ret2
             exact ⟨se_, bl_⟩
            ·rw [if_neg c85] at H
             have c85b0 : (x20_4 == 9223372036854775807) = false := beq_eq_false_iff_ne.mpr c85
             have c85b1 : (x20_4 != 9223372036854775807) = true := bne_iff_ne.mpr c85
             by_cases c87 : (t406 != t410) = true
             ·rw [if_pos c87] at H
              have c87b0 : (t406 != t410) = true := c87
              (try (have c87b1 : decide (t406 = t410) = false := by simpa using c87))
              (try (have c87b2 : (t406 == t410) = false := by simpa using c87))
              (try (have c87b3 : ¬ (t406 = t410) := by simpa using c87))
              clear c87
              simp only [Option.some.injEq, Prod.mk.injEq] at H
              obtain ⟨rfl, rfl⟩ := H
              obtain ⟨Ao88, co88, eo88⟩ := Kd.R_slice HO_13.out
              subst eo88
              have hnb89 := NB414_415.out
              have hnc89 := NB415_414.out
              obtain ⟨hcz90_0, hcz90_1, hfz90_0, hfz90_1⟩ := c2_ BK414.out
              obtain ⟨hcz91_0, hcz91_1, hfz91_0, hfz91_1⟩ := c2_ BK415.out
              go_wp2
              go_ret2
              exact ⟨se_, bl_⟩
             ·rw [if_neg c87] at H
              have c87b0 : (t406 != t410) = false := by simpa using c87
              (try (have c87b1 : decide (t406 = t410) = true := by simpa using c87))
              (try (have c87b2 : (t406 == t410) = true := by simpa using c87))
              clear c87
              simp only [Option.some.injEq, Prod.mk.injEq] at H
              obtain ⟨rfl, rfl⟩ := H
              obtain ⟨Ao92, co92, eo92⟩ := Kd.R_slice HO_13.out
              subst eo92
              have hnb93 := NB414_415.out
              have hnc93 := NB415_414.out
              obtain ⟨hcz94_0, hcz94_1, hfz94_0, hfz94_1⟩ := c2_ BK414.out
              obtain ⟨hcz95_0, hcz95_1, hfz95_0, hfz95_1⟩ := c2_ BK415.out
              go_wp2
              go_ret2
              exact ⟨se_, bl_⟩
           ·replace c84 := Bool.eq_false_iff.mpr c84
            subst c84
            rw [if_neg (show ¬ (false = true) by decide)] at H
            by_cases c96 : (t406 != t410) = true
            ·rw [if_pos c96] at H
             have c96b0 : (t406 != t410) = true := c96
             (try (have c96b1 : decide (t406 = t410) = false := by simpa using c96))
             (try (have c96b2 : (t406 == t410) = false := by simpa using c96))
             (try (have c96b3 : ¬ (t406 = t410) := by simpa using c96))
             clear c96
             simp only [Option.some.injEq, Prod.mk.injEq] at H
             obtain ⟨rfl, rfl⟩ := H
             obtain ⟨Ao97, co97, eo97⟩ := Kd.R_slice HO_13.out
             subst eo97
             have hnb98 := NB414_415.out
             have hnc98 := NB415_414.out
             obtain ⟨hcz99_0, hcz99_1, hfz99_0, hfz99_1⟩ := c2_ BK414.out
             obtain ⟨hcz100_0, hcz100_1, hfz100_0, hfz100_1⟩ := c2_ BK415.out
             go_wp2
             go_ret2
             exact ⟨se_, bl_⟩
            ·rw [if_neg c96] at H
             have c96b0 : (t406 != t410) = false := by simpa using c96
             (try (have c96b1 : decide (t406 = t410) = true := by simpa using c96))
             (try (have c96b2 : (t406 == t410) = true := by simpa using c96))
             clear c96
             simp only [Option.some.injEq, Prod.mk.injEq] at H
             obtain ⟨rfl, rfl⟩ := H
             obtain ⟨Ao101, co101, eo101⟩ := Kd.R_slice HO_13.out
             subst eo101
             have hnb102 := NB414_415.out
             have hnc102 := NB415_414.out
             obtain ⟨hcz103_0, hcz103_1, hfz103_0, hfz103_1⟩ := c2_ BK414.out
             obtain ⟨hcz104_0, hcz104_1, hfz104_0, hfz104_1⟩ := c2_ BK415.out
             go_wp2
             go_ret2
             exact ⟨se_, bl_⟩

end Go.Proofs.Ytocaneaofdbpoaa.PA
