/- Contracts of the functions of the given program: written by wip/pmprint.py, a program of this session, which runs the print of the kit over altered functions. -/
import Derived.Test.YtocaneaofdbpoaaPAx0
import Derived.Test.YtocaneaofdbpoaaPAx1
import Derived.Test.YtocaneaofdbpoaaPAx5
import Derived.Test.YtocaneaofdbpoaaPAx8
import Derived.Test.YtocaneaofdbpoaaPAx10
import Derived.Test.YtocaneaofdbpoaaPAx11
import Derived.Test.YtocaneaofdbpoaaPAx17
namespace Go.Proofs.Ytocaneaofdbpoaa.PA
open Go.RowKit Go.Proofs.YtocaneaofdbpoaaW.PrintWords Go.Proofs.YtocaneaofdbpoaaW.PrintLast Go.Proofs.YtocaneaofdbpoaaW.PrintMore
attribute [local go_sem] max2_int min2_int max_two min_two max_three min_three max_four min_four   -- for this text's walks alone
set_option linter.unusedVariables false
set_option linter.unusedSimpArgs false

/-! ### paymasterlaw14_WithholdDue: function 5 -/
def paymasterlaw14_WithholdDue.j0 : Nat → Int → Int → Int → Int → List (S58) → List (S41) → Int → Int → Int → List Int → List Int → Option (Bool)
  | 0, _, _, _, _, _, _, _, _, _, _, _ => none
  | k + 1, x1, x2, x8, x10, x473000, x473001, x486000, x486001, x486002, x486003, x486004 => if x10 = 0 then ((paymasterlaw14_ref.f k x473000 x473001).bind fun bt498 => ((paymasterref14_Due.f k bt498.1 bt498.2 x1 x2).bind fun bt504 => ((paymasterref14_Same.f k x486000 x486001 x486002 x486003 x486004 bt504.1 bt504.2.1 bt504.2.2.1 bt504.2.2.2.1 bt504.2.2.2.2).bind fun t513 => (if t513 = true then (if x8 = x10 then ((paymasterlaw14_awake.f k).bind fun t514 => (some t514)) else (none)) else (none))))) else ((paymasterref14_Same.f k x486000 x486001 x486002 x486003 x486004 0 0 0 ([] : List Int) ([] : List Int)).bind fun t496 => (if t496 = true then (if x8 = x10 then ((paymasterlaw14_awake.f k).bind fun t497 => (some t497)) else (none)) else (none)))
def paymasterlaw14_WithholdDue.f (k : Nat) (l0_0 : List (S58)) (l0_1 : List (S41)) (a1 : Int) (a2 : Int) : Option (Bool) := (paymasterlaw14_small.f l0_0 l0_1).bind fun t473 => (if t473 = true then ((withhold_Due.f k l0_0 l0_1 a1 a2).bind fun bt475 => ((paymasterlaw14_ref.f k l0_0 l0_1).bind fun bt486 => ((paymasterref14_Right.f k bt486.1 bt486.2).bind fun t492 => ((withhold_Right.f k l0_0 l0_1).bind fun t493 => (if (t493 != t492) = true then (none) else (if t492 = true then ((paymasterref14_Far.f a1).bind fun t494 => (if t494 = true then (paymasterlaw14_WithholdDue.j0 k a1 a2 bt475.2.2.2.2.2 3 l0_0 l0_1 bt475.1 bt475.2.1 bt475.2.2.1 bt475.2.2.2.1 bt475.2.2.2.2.1) else ((paymasterref14_Far.f a2).bind fun t495 => (if t495 = true then (paymasterlaw14_WithholdDue.j0 k a1 a2 bt475.2.2.2.2.2 3 l0_0 l0_1 bt475.1 bt475.2.1 bt475.2.2.1 bt475.2.2.2.1 bt475.2.2.2.2.1) else (paymasterlaw14_WithholdDue.j0 k a1 a2 bt475.2.2.2.2.2 0 l0_0 l0_1 bt475.1 bt475.2.1 bt475.2.2.1 bt475.2.2.2.1 bt475.2.2.2.2.1))))) else (paymasterlaw14_WithholdDue.j0 k a1 a2 bt475.2.2.2.2.2 1 l0_0 l0_1 bt475.1 bt475.2.1 bt475.2.2.1 bt475.2.2.2.1 bt475.2.2.2.2.1))))))) else ((paymasterlaw14_awake.f k).bind fun t474 => (some t474)))
def paymasterlaw14_WithholdDue.T14 : Bool × List (List Nat × List Nat) := (true, [([], []), ([], []), ([1], [1]), ([], []), ([], []), ([2, 3, 4, 2], [2, 3, 4]), ([0, 5, 5], [0, 5]), ([6, 6], [6]), ([7], [7]), ([7], [7]), ([8, 9, 7], [7, 8, 9]), ([7, 10], [7, 10]), ([11, 7], [11]), ([12, 12], [12]), ([12, 13], [12, 13]), ([14, 13, 0, 1, 2, 3, 4, 5, 6, 7, 8, 9, 10, 11, 12, 13, 14], [14])])
def paymasterlaw14_WithholdDue.B14 : List Nat := [0, 0, 2, 0, 0, 30, 63, 127, 255, 255, 1023, 2047, 4095, 8191, 16383, 32767]
theorem paymasterlaw14_WithholdDue.tab14 : rtab .any (opsOf Try.f5 14) = paymasterlaw14_WithholdDue.T14 := by kernel_rfl
theorem paymasterlaw14_WithholdDue.bits14 : waitsOk paymasterlaw14_WithholdDue.T14.2 paymasterlaw14_WithholdDue.B14 = true := by kernel_rfl
set_option maxHeartbeats 8000000 in
set_option maxRecDepth 100000 in
theorem paymasterlaw14_WithholdDue.calls (k : Nat) (A0_0 : Option Addr) (c0_0 : Nat) (l0_0 : List (S58)) (A0_1 : Option Addr) (c0_1 : Nat) (l0_1 : List (S41)) (a1 : Int) (a2 : Int) (r : Bool) (w : World) (hr0_0 : Kd.C k58 w A0_0 l0_0.length l0_0) (hc0_0 : l0_0.length ≤ c0_0) (hr0_1 : Kd.C k41 w A0_1 l0_1.length l0_1) (hc0_1 : l0_1.length ≤ c0_1) (h : paymasterlaw14_WithholdDue.f k l0_0 l0_1 a1 a2 = some r) :
    Calls Try.prog 5 #[.agg #[.slice A0_0 l0_0.length c0_0, .slice A0_1 l0_1.length c0_1], .int .i64 a1, .int .i64 a2] w fun e w' => e = .returned (.bool r) ∧ Below w.heap.size w w' := by
 have hu25 := Try.underlying25
 have hu30 := Try.underlying30
 have hu35 := Try.underlying35
 have HR0_0 := Aside0.mk hr0_0
 have HC0_0 := Aside0.mk hc0_0
 clear hr0_0 hc0_0
 have HR0_1 := Aside0.mk hr0_1
 have HC0_1 := Aside0.mk hc0_1
 clear hr0_1 hc0_1
 have HB := Aside0.mk (Below.refl w.heap.size w)
 have H : ((paymasterlaw14_small.f l0_0 l0_1).bind fun t473 => (if t473 = true then ((withhold_Due.f k l0_0 l0_1 a1 a2).bind fun bt475 => ((paymasterlaw14_ref.f k l0_0 l0_1).bind fun bt486 => ((paymasterref14_Right.f k bt486.1 bt486.2).bind fun t492 => ((withhold_Right.f k l0_0 l0_1).bind fun t493 => (if (t493 != t492) = true then (none) else (if t492 = true then ((paymasterref14_Far.f a1).bind fun t494 => (if t494 = true then (paymasterlaw14_WithholdDue.j0 k a1 a2 bt475.2.2.2.2.2 3 l0_0 l0_1 bt475.1 bt475.2.1 bt475.2.2.1 bt475.2.2.2.1 bt475.2.2.2.2.1) else ((paymasterref14_Far.f a2).bind fun t495 => (if t495 = true then (paymasterlaw14_WithholdDue.j0 k a1 a2 bt475.2.2.2.2.2 3 l0_0 l0_1 bt475.1 bt475.2.1 bt475.2.2.1 bt475.2.2.2.1 bt475.2.2.2.2.1) else (paymasterlaw14_WithholdDue.j0 k a1 a2 bt475.2.2.2.2.2 0 l0_0 l0_1 bt475.1 bt475.2.1 bt475.2.2.1 bt475.2.2.2.1 bt475.2.2.2.2.1))))) else (paymasterlaw14_WithholdDue.j0 k a1 a2 bt475.2.2.2.2.2 1 l0_0 l0_1 bt475.1 bt475.2.1 bt475.2.2.1 bt475.2.2.2.1 bt475.2.2.2.2.1))))))) else ((paymasterlaw14_awake.f k).bind fun t474 => (some t474)))) = some r := h
 clear h
 replace H := Option.bind_eq_some_iff.mp H
 obtain ⟨t473, A40, H⟩ := H
 (try dsimp only at H)
 have A4 := Aside0.mk A40
 clear A40
 by_cases c5 : t473 = true
 ·subst c5
  rw [if_pos rfl] at H
  replace H := Option.bind_eq_some_iff.mp H
  obtain ⟨⟨t475, t476, t477, t478, t481, t484⟩, A60, H⟩ := H
  (try dsimp only at H)
  have A6 := Aside0.mk A60
  clear A60
  replace H := Option.bind_eq_some_iff.mp H
  obtain ⟨⟨t486, t489⟩, A70, H⟩ := H
  (try dsimp only at H)
  have A7 := Aside0.mk A70
  clear A70
  replace H := Option.bind_eq_some_iff.mp H
  obtain ⟨t492, A80, H⟩ := H
  (try dsimp only at H)
  have A8 := Aside0.mk A80
  clear A80
  replace H := Option.bind_eq_some_iff.mp H
  obtain ⟨t493, A90, H⟩ := H
  (try dsimp only at H)
  have A9 := Aside0.mk A90
  clear A90
  by_cases c10 : (t493 != t492) = true
  ·rw [if_pos c10] at H
   exact absurd H (by simp)
  ·rw [if_neg c10] at H
   have c10b0 : (t493 != t492) = false := by simpa using c10
   (try (have c10b1 : decide (t493 = t492) = true := by simpa using c10))
   (try (have c10b2 : (t493 == t492) = true := by simpa using c10))
   clear c10
   have HC11 := Aside0.mk H
   clear H
   go_enter Try.func5, Try.ntmps5
   go_upto_if 30 with (first | ((with_reducible refine gate_dst (N := 3) rfl ?_); refine bx_ 3 #[.slice A0_0 l0_0.length c0_0, .slice A0_1 l0_1.length c0_1] 25 ?_; intro gb472 hg w12 hbox hb; have BK472 := Aside0.mk hbox; have GW472 := gs_ hg; have GE472 := gs_ hg; replace HB := hs_ hb; clear hb hbox hg; obtain ⟨hcz13_0, hcz13_1, hfz13_0, hfz13_1⟩ := c2_ BK472.out) | ((with_reducible refine gate_callee (f := 9) rfl ?_); refine goesL_ (some 12) rfl rfl Try.func9 (by kernel_rfl) rfl #[.agg #[.slice A0_0 l0_0.length c0_0, .slice A0_1 l0_1.length c0_1]] rfl ga_ ?_; (with_reducible refine (paymasterlaw14_small.calls _ _ l0_0 _ _ l0_1 true _ ?side1 ?side2 ?side3 ?side4 A4.out).mono ?_); (case side1 => exact kc_ (Kd.C_below HR0_0.out HB.out)); (case side2 => exact HC0_0.out); (case side3 => exact kc_ (Kd.C_below HR0_1.out HB.out)); (case side4 => exact HC0_1.out); rintro e w14 ⟨rfl, hb⟩; refine ⟨_, rfl, ?_⟩; replace BK472 := bb_ BK472.out hb; replace HB := hs_ hb; (try clear hb); (try clear hb2); (try clear hk); (try clear hi); obtain ⟨hcz15_0, hcz15_1, hfz15_0, hfz15_1⟩ := c2_ BK472.out) | ((with_reducible refine gate_callee (f := 14) rfl ?_); refine goesL_ (some 19) rfl rfl Try.func14 (by kernel_rfl) rfl #[.agg #[.slice A0_0 l0_0.length c0_0, .slice A0_1 l0_1.length c0_1], .int .i64 a1, .int .i64 a2] rfl ga_ ?_; (with_reducible refine (withhold_Due.calls k _ _ l0_0 _ _ l0_1 a1 a2 t475 t476 t477 t478 t481 t484 _ ?side1 ?side2 ?side3 ?side4 A6.out).mono ?_); (case side1 => exact kc_ (Kd.C_below HR0_0.out HB.out)); (case side2 => exact HC0_0.out); (case side3 => exact kc_ (Kd.C_below HR0_1.out HB.out)); (case side4 => exact HC0_1.out); rintro e w16 ⟨v479, v482, rfl, ho0, ho1, hb⟩; refine ⟨_, rfl, ?_⟩; have HO480 := rl0_ ho0; have HO483 := rl0_ ho1; replace BK472 := bb_ BK472.out hb; replace HB := hs_ hb; (try clear hb); (try clear hb2); (try clear hk); (try clear hi); (try clear ho0); (try clear ho1)) | ((with_reducible refine gate_dst (N := 7) rfl ?_); refine bx_ 7 #[.int .i64 0, .int .i64 0, .int .i64 0, .slice none 0 0, .slice none 0 0] 30 ?_; intro gb485 hg w17 hbox hb; have BK485 := Aside0.mk hbox; have GW485 := gs_ hg; have GE485 := gs_ hg; have NB472_485 := nl_ hg BK472.out; have NB485_472 := ng_ hg BK472.out; replace HO480 := rl_ HO480.out hb; replace HO483 := rl_ HO483.out hb; replace BK472 := bb_ BK472.out hb; replace HB := hs_ hb; clear hb hbox hg; have hnb18 := NB485_472.out; have hnc18 := NB472_485.out; obtain ⟨hcz19_0, hcz19_1, hcz19_2, hcz19_3, hcz19_4, hfz19_0, hfz19_1, hfz19_2, hfz19_3, hfz19_4⟩ := c5_ BK485.out; obtain ⟨Ao20, co20, eo20⟩ := Kd.R_slice HO480.out; subst eo20; obtain ⟨Ao21, co21, eo21⟩ := Kd.R_slice HO483.out; subst eo21) | ((with_reducible refine gate_store (t := 30) (p := 7) rfl ?_); refine store_event (t := 30) (p := 7) (v := ?vo_w22) (w1 := (((((w17.setCell ⟨gb485, 0, none⟩ (.int .i64 t475)).setCell ⟨gb485, 1, none⟩ (.int .i64 t476)).setCell ⟨gb485, 2, none⟩ (.int .i64 t477)).setCell ⟨gb485, 3, none⟩ (.slice Ao20 t478.length co20)).setCell ⟨gb485, 4, none⟩ (.slice Ao21 t481.length co21))) ?hg ?ho ?hn ?hr ?_; (case ho => rfl); (case hg => rfl); (case hn => rfl); (case hr => first | (go_simp; done) | (go_simp; rfl)); intro w22 hw; replace HO480 : Aside0 (Kd.R (Kd.int .i64) 3 w22 w.heap.size (fun k_ => some k_ ≠ (.slice Ao21 t481.length co21 : Value).ownBlock) (.slice Ao20 t478.length co20) t478) := ⟨(by rw [hw]; exact (rs_ (ty_ HO480.out BK485.out)))⟩; replace HO483 : Aside0 (Kd.R (Kd.int .i64) 3 w22 w.heap.size (fun k_ => some k_ ≠ (.slice Ao20 t478.length co20 : Value).ownBlock) (.slice Ao21 t481.length co21) t481) := ⟨(by rw [hw]; exact (rs_ (ty_ HO483.out BK485.out)))⟩; replace BK472 : Aside0 (w22.heap[gb472]? = some (.cells #[.slice A0_0 l0_0.length c0_0, .slice A0_1 l0_1.length c0_1] 25 (0, 0))) := ⟨(by rw [hw]; exact (bf_ BK472.out))⟩; replace BK485 : Aside0 (w22.heap[gb485]? = some (.cells #[.int .i64 t475, .int .i64 t476, .int .i64 t477, .slice Ao20 t478.length co20, .slice Ao21 t481.length co21] 30 (0, 0))) := ⟨(by rw [hw]; exact (bp_ BK485.out))⟩; replace HB : Aside0 (Below w.heap.size w w22) := ⟨(by rw [hw]; exact bl_)⟩; clear hw; obtain ⟨hcz23_0, hcz23_1, hfz23_0, hfz23_1⟩ := c2_ BK472.out) | ((with_reducible refine gate_callee (f := 16) rfl ?_); refine goesL_ (some 23) rfl rfl Try.func16 (by kernel_rfl) rfl #[.agg #[.slice A0_0 l0_0.length c0_0, .slice A0_1 l0_1.length c0_1]] rfl ga_ ?_; (with_reducible refine (paymasterlaw14_ref.calls k (fun k_ => k_ < w.heap.size) _ _ l0_0 _ _ l0_1 t486 t489 _ ?side1 ?side2 ?side3 A7.out).mono ?_); (case side1 => exact Kd.V_mk HC0_0.out (Kd.F_below (Kd.C_F k58_heap HR0_0.out) bl_)); (case side2 => exact kc_ (Kd.C_below HR0_1.out HB.out)); (case side3 => exact HC0_1.out); rintro e w24 ⟨v487, v490, rfl, ho0, ho1, hb⟩; refine ⟨_, rfl, ?_⟩; have HO488 := Aside0.mk (Kd.V_lower (Kd.V_mono (ok' := fun k_ => some k_ ≠ (v490 : Value).ownBlock ∧ some k_ ≠ (.slice Ao20 t478.length co20 : Value).ownBlock ∧ some k_ ≠ (.slice Ao21 t481.length co21 : Value).ownBlock ∧ k_ ≠ gb472 ∧ k_ ≠ gb485) ho0 (fun k_ hk_ => ⟨hk_.2, Or.elim hk_.1 (fun hs_ => fun e_ => Nat.not_le.2 hs_ (Kd.R_base HO480.out k_ e_.symm)) (fun hn_ => (Kd.fresh' (Kd.R_lt (rq_ HO480.out)) k_ hn_)), Or.elim hk_.1 (fun hs_ => fun e_ => Nat.not_le.2 hs_ (Kd.R_base HO483.out k_ e_.symm)) (fun hn_ => (Kd.fresh' (Kd.R_lt (rq_ HO483.out)) k_ hn_)), Or.elim hk_.1 (fun hs_ => fun e_ => Nat.not_le.2 hs_ (by rw [e_]; exact GW472.out)) (fun hn_ => (Kd.freshB (g := gb472) (o := .cells #[.slice A0_0 l0_0.length c0_0, .slice A0_1 l0_1.length c0_1] 25 (0, 0)) (bq_ BK472.out) k_ hn_)), Or.elim hk_.1 (fun hs_ => fun e_ => Nat.not_le.2 hs_ (by rw [e_]; exact GW485.out)) (fun hn_ => (Kd.freshB (g := gb485) (o := .cells #[.int .i64 t475, .int .i64 t476, .int .i64 t477, .slice Ao20 t478.length co20, .slice Ao21 t481.length co21] 30 (0, 0)) (bq_ BK485.out) k_ hn_))⟩)) (below_size bl_)); have HO491 := Aside0.mk (Kd.R_lower (Kd.R_mono (ok' := fun k_ => True) ho1 (fun _ hk_ => trivial)) (below_size bl_)); replace HO480 := rl_ HO480.out hb; replace HO483 := rl_ HO483.out hb; replace BK472 := bb_ BK472.out hb; replace BK485 := bb_ BK485.out hb; replace HB := hs_ hb; (try clear hb); (try clear hb2); (try clear hk); (try clear hi); (try clear ho0); (try clear ho1); obtain ⟨Ao25, co25, eo25⟩ := Kd.V_slice HO488.out; subst eo25; obtain ⟨Ao26, co26, eo26⟩ := Kd.R_slice HO491.out; subst eo26) | ((with_reducible refine gate_callee (f := 15) rfl ?_); refine goesL_ (some 24) rfl rfl Try.func15 (by kernel_rfl) rfl #[.agg #[.slice Ao25 t486.length co25, .slice Ao26 t489.length co26]] rfl ga_ ?_; (with_reducible refine (paymasterref14_Right.calls k _ _ t486 _ _ t489 t492 _ ?side1 ?side2 ?side3 ?side4 A8.out).mono ?_); (case side1 => exact kc_ (Kd.V_reads' HO488.out).2.2); (case side2 => exact (Kd.V_reads' HO488.out).2.1); (case side3 => exact kc_ (Kd.R_reads' HO491.out).2.2); (case side4 => exact (Kd.R_reads' HO491.out).2.1); rintro e w27 ⟨rfl, hb⟩; refine ⟨_, rfl, ?_⟩; replace HO480 := rl_ HO480.out hb; replace HO483 := rl_ HO483.out hb; replace HO488 := Aside0.mk (Kd.V_below (by refine kv_ ?_; exact HO488.out) hb); replace HO491 := rl_ HO491.out hb; replace BK472 := bb_ BK472.out hb; replace BK485 := bb_ BK485.out hb; replace HB := hs_ hb; (try clear hb); (try clear hb2); (try clear hk); (try clear hi); obtain ⟨hcz28_0, hcz28_1, hfz28_0, hfz28_1⟩ := c2_ BK472.out) | ((with_reducible refine gate_callee (f := 12) rfl ?_); refine goesL_ (some 26) rfl rfl Try.func12 (by kernel_rfl) rfl #[.agg #[.slice A0_0 l0_0.length c0_0, .slice A0_1 l0_1.length c0_1]] rfl ga_ ?_; (with_reducible refine (withhold_Right.calls k _ _ l0_0 _ _ l0_1 t493 _ ?side1 ?side2 ?side3 ?side4 A9.out).mono ?_); (case side1 => exact kc_ (Kd.C_below HR0_0.out HB.out)); (case side2 => exact HC0_0.out); (case side3 => exact kc_ (Kd.C_below HR0_1.out HB.out)); (case side4 => exact HC0_1.out); rintro e w29 ⟨rfl, hb⟩; refine ⟨_, rfl, ?_⟩; replace HO480 := rl_ HO480.out hb; replace HO483 := rl_ HO483.out hb; replace HO488 := Aside0.mk (Kd.V_below (by refine kv_ ?_; exact HO488.out) hb); replace HO491 := rl_ HO491.out hb; replace BK472 := bb_ BK472.out hb; replace BK485 := bb_ BK485.out hb; replace HB := hs_ hb; (try clear hb); (try clear hb2); (try clear hk); (try clear hi)))
   (try simp only [Act.put, List.setIfInBounds_toArray, List.set_cons_zero, List.set_cons_succ])
   go_cut [10] (fun v10 wc => ∃ (kq : Nat) (x10_10 : Int), v10 = .int .i64 x10_10 ∧ Aside0 (paymasterlaw14_WithholdDue.j0 kq a1 a2 t484 x10_10 l0_0 l0_1 t475 t476 t477 t478 t481 = some r) ∧ Aside0 (kq ≤ k) ∧ Aside0 (Kd.R (Kd.int .i64) 3 wc w.heap.size (fun k_ => some k_ ≠ ((.slice Ao21 t481.length co21) : Value).ownBlock) (.slice Ao20 t478.length co20) t478) ∧ Aside0 (Kd.R (Kd.int .i64) 3 wc w.heap.size (fun k_ => some k_ ≠ ((.slice Ao20 t478.length co20) : Value).ownBlock) (.slice Ao21 t481.length co21) t481) ∧ Aside0 (wc.heap[gb472]? = some (.cells #[(.slice A0_0 l0_0.length c0_0), (.slice A0_1 l0_1.length c0_1)] 25 (0, 0))) ∧ Aside0 (wc.heap[gb485]? = some (.cells #[.int .i64 t475, .int .i64 t476, .int .i64 t477, (.slice Ao20 t478.length co20), (.slice Ao21 t481.length co21)] 30 (0, 0))) ∧ Aside0 (Below w.heap.size w wc))
   case first =>
    have H := HC11.out
    clear HC11
    by_cases c30 : t492 = true
    ·subst c30
     rw [if_pos rfl] at H
     replace H := Option.bind_eq_some_iff.mp H
     obtain ⟨t494, A310, H⟩ := H
     (try dsimp only at H)
     have A31 := Aside0.mk A310
     clear A310
     by_cases c32 : t494 = true
     ·subst c32
      rw [if_pos rfl] at H
      have H' := Aside0.mk H
      clear H
      go_wp2_with (first | ((with_reducible refine gate_callee (f := 17) rfl ?_); refine goesL_ (some 32) rfl rfl Try.func17 (by kernel_rfl) rfl #[.int .i64 a1] rfl ga_ ?_; (with_reducible refine (paymasterref14_Far.calls a1 true _ A31.out).mono ?_); rintro e w' ⟨rfl, ⟨nd, rfl⟩⟩; refine ⟨_, rfl, ?_⟩))
      go_meet
      case rel => exact ⟨_, (3), sm_, H', ⟨by first | omega | exact Nat.le_refl _⟩, ⟨rs_ HO480.out⟩, ⟨rs_ HO483.out⟩, ⟨bq_ BK472.out⟩, ⟨bq_ BK485.out⟩, ⟨bl_⟩⟩
     ·replace c32 := Bool.eq_false_iff.mpr c32
      subst c32
      rw [if_neg (show ¬ (false = true) by decide)] at H
      replace H := Option.bind_eq_some_iff.mp H
      obtain ⟨t495, A330, H⟩ := H
      (try dsimp only at H)
      have A33 := Aside0.mk A330
      clear A330
      by_cases c34 : t495 = true
      ·subst c34
       rw [if_pos rfl] at H
       have H' := Aside0.mk H
       clear H
       go_wp2_with (first | ((with_reducible refine gate_callee (f := 17) rfl ?_); refine goesL_ (some 32) rfl rfl Try.func17 (by kernel_rfl) rfl #[.int .i64 a1] rfl ga_ ?_; (with_reducible refine (paymasterref14_Far.calls a1 false _ A31.out).mono ?_); rintro e w' ⟨rfl, ⟨nd, rfl⟩⟩; refine ⟨_, rfl, ?_⟩) | (go_at_call 17; (with_reducible refine (paymasterref14_Far.calls a2 true _ A33.out).mono ?_); rintro e w' ⟨rfl, ⟨nd, rfl⟩⟩))
       go_meet
       case rel => exact ⟨_, (3), sm_, H', ⟨by first | omega | exact Nat.le_refl _⟩, ⟨rs_ HO480.out⟩, ⟨rs_ HO483.out⟩, ⟨bq_ BK472.out⟩, ⟨bq_ BK485.out⟩, ⟨bl_⟩⟩
      ·replace c34 := Bool.eq_false_iff.mpr c34
       subst c34
       rw [if_neg (show ¬ (false = true) by decide)] at H
       have H' := Aside0.mk H
       clear H
       go_wp2_with (first | ((with_reducible refine gate_callee (f := 17) rfl ?_); refine goesL_ (some 32) rfl rfl Try.func17 (by kernel_rfl) rfl #[.int .i64 a1] rfl ga_ ?_; (with_reducible refine (paymasterref14_Far.calls a1 false _ A31.out).mono ?_); rintro e w' ⟨rfl, ⟨nd, rfl⟩⟩; refine ⟨_, rfl, ?_⟩) | (go_at_call 17; (with_reducible refine (paymasterref14_Far.calls a2 false _ A33.out).mono ?_); rintro e w' ⟨rfl, ⟨nd, rfl⟩⟩))
       go_meet
       case rel => exact ⟨_, (0), sm_, H', ⟨by first | omega | exact Nat.le_refl _⟩, ⟨rs_ HO480.out⟩, ⟨rs_ HO483.out⟩, ⟨bq_ BK472.out⟩, ⟨bq_ BK485.out⟩, ⟨bl_⟩⟩
    ·replace c30 := Bool.eq_false_iff.mpr c30
     subst c30
     rw [if_neg (show ¬ (false = true) by decide)] at H
     have H' := Aside0.mk H
     clear H
     go_wp2
     go_meet
     case rel => exact ⟨_, (1), sm_, H', ⟨by first | omega | exact Nat.le_refl _⟩, ⟨rs_ HO480.out⟩, ⟨rs_ HO483.out⟩, ⟨bq_ BK472.out⟩, ⟨bq_ BK485.out⟩, ⟨bl_⟩⟩
   case rest =>
    clear HC11
    try clear c5; try clear c10; try clear c10b0; try clear c10b1; try clear c10b2; try clear hcz13_0; try clear hcz13_1; try clear hcz15_0; try clear hcz15_1; try clear hcz19_0; try clear hcz19_1; try clear hcz19_2; try clear hcz19_3; try clear hcz19_4; try clear hcz23_0; try clear hcz23_1; try clear hcz28_0; try clear hcz28_1; try clear hfz13_0; try clear hfz13_1; try clear hfz15_0; try clear hfz15_1
    try clear hfz19_0; try clear hfz19_1; try clear hfz19_2; try clear hfz19_3; try clear hfz19_4; try clear hfz23_0; try clear hfz23_1; try clear hfz28_0; try clear hfz28_1
    obtain ⟨kq, x10_10, rfl, HA, HJ10, HO_486003, HO_486004, BK472, BK485, HB⟩ := hcut
    cases kq with
    | zero => exact absurd HA.out (by simp [paymasterlaw14_WithholdDue.j0])
    | succ kj10 =>
     have H := HA.out
     clear HA
     simp only [paymasterlaw14_WithholdDue.j0] at H
     by_cases c35 : x10_10 = 0
     ·rw [if_pos c35] at H
      have c35b0 : (x10_10 == 0) = true := beq_iff_eq.mpr c35
      have c35b1 : (x10_10 != 0) = false := bne_eq_false_iff_eq.mpr c35
      clear c35
      replace H := Option.bind_eq_some_iff.mp H
      obtain ⟨⟨t498, t501⟩, A360, H⟩ := H
      (try dsimp only at H)
      have A36 := Aside0.mk A360
      clear A360
      replace H := Option.bind_eq_some_iff.mp H
      obtain ⟨⟨t504, t505, t506, t507, t510⟩, A370, H⟩ := H
      (try dsimp only at H)
      have A37 := Aside0.mk A370
      clear A370
      replace H := Option.bind_eq_some_iff.mp H
      obtain ⟨t513, A380, H⟩ := H
      (try dsimp only at H)
      have A38 := Aside0.mk A380
      clear A380
      by_cases c39 : t513 = true
      ·subst c39
       rw [if_pos rfl] at H
       by_cases c40 : t484 = x10_10
       ·rw [if_pos c40] at H
        have c40b0 : (t484 == x10_10) = true := beq_iff_eq.mpr c40
        have c40b1 : (t484 != x10_10) = false := bne_eq_false_iff_eq.mpr c40
        clear c40
        replace H := Option.bind_eq_some_iff.mp H
        obtain ⟨t514, A410, H⟩ := H
        (try dsimp only at H)
        have A41 := Aside0.mk A410
        clear A410
        obtain rfl := Option.some.inj H
        try go_wp2
        replace HO_486003 := Aside0.mk (Kd.R_drew HO_486003.out)
        replace HO_486004 := Aside0.mk (Kd.R_drew HO_486004.out)
        replace BK472 := Aside0.mk (blk_drew BK472.out)
        replace BK485 := Aside0.mk (blk_drew BK485.out)
        replace HB := Aside0.mk (below_drew1 HB.out)
        refine start_ (n := 16) (S := fun w' => w'.cell? ⟨gb485, 0, none⟩ = some (.int .i64 t475) ∧ w'.cell? ⟨gb485, 1, none⟩ = some (.int .i64 t476) ∧ w'.cell? ⟨gb485, 2, none⟩ = some (.int .i64 t477) ∧ w'.cell? ⟨gb485, 3, none⟩ = some (.slice Ao20 t478.length co20) ∧ w'.cell? ⟨gb485, 4, none⟩ = some (.slice Ao21 t481.length co21) ∧ w'.cell? ⟨gb472, 0, none⟩ = some (.slice A0_0 l0_0.length c0_0) ∧ w'.cell? ⟨gb472, 1, none⟩ = some (.slice A0_1 l0_1.length c0_1)) (ds := []) #[false, false, false, false, false, false, false, false, false, false, false, false, false, false, false, false] (by kernel_rfl) rfl rfl ⟨(blk_cell BK485.out 0).trans rfl, (blk_cell BK485.out 1).trans rfl, (blk_cell BK485.out 2).trans rfl, (blk_cell BK485.out 3).trans rfl, (blk_cell BK485.out 4).trans rfl, (blk_cell BK472.out 0).trans rfl, (blk_cell BK472.out 1).trans rfl⟩ (fun hHeld => ?_); refine with_tabW paymasterlaw14_WithholdDue.tab14 paymasterlaw14_WithholdDue.bits14 (fun HT_ HW_ => ?_)
        generalize wc.drew = w42 at HO_486003 HO_486004 BK472 BK485 HB hHeld ⊢
        refine pure_ (i := 3) (N := some 53) (v := ?_) (a' := ?_) #[false, false, false, true, false, false, false, false, false, false, false, false, false, false, false, false] rfl rfl (any_of HT_.out (by kernel_rfl)) (fun _ _ _ h => h) (Or.inl ⟨by rfl, ?_⟩) ?_ ?_
        rotate_left
        ·intro w'
         go_simp
         with_reducible rfl
        rotate_left
        ·simp only [Act.put, List.setIfInBounds_toArray, List.set_cons_zero, List.set_cons_succ, i64_w, i32_w]
         rfl
        refine pure_ (i := 4) (N := some 54) (v := ?_) (a' := ?_) #[false, false, false, true, true, false, false, false, false, false, false, false, false, false, false, false] rfl rfl (any_of HT_.out (by kernel_rfl)) (fun _ _ _ h => h) (Or.inl ⟨by rfl, ?_⟩) ?_ ?_
        rotate_left
        ·intro w'
         go_simp
         with_reducible rfl
        rotate_left
        ·simp only [Act.put, List.setIfInBounds_toArray, List.set_cons_zero, List.set_cons_succ, i64_w, i32_w]
         rfl
        refine take_ (i := 0) (N := some 50) (v := ?_) (a' := ?_) #[true, false, false, true, true, false, false, false, false, false, false, false, false, false, false, false] rfl rfl (take_ofW HT_.out HW_.out (by kernel_rfl)) (fun _ _ _ h => h) (Or.inl ⟨by rfl, ?_⟩) hHeld ?_ ?_
        rotate_left
        ·rintro w' ⟨s0, s1, s2, s3, s4, s5, s6⟩
         go_simp
         with_reducible rfl
        rotate_left
        ·simp only [Act.put, List.setIfInBounds_toArray, List.set_cons_zero, List.set_cons_succ, i64_w, i32_w]
         rfl
        refine take_ (i := 1) (N := some 51) (v := ?_) (a' := ?_) #[true, true, false, true, true, false, false, false, false, false, false, false, false, false, false, false] rfl rfl (take_ofW HT_.out HW_.out (by kernel_rfl)) (fun _ _ _ h => h) (Or.inl ⟨by rfl, ?_⟩) hHeld ?_ ?_
        rotate_left
        ·rintro w' ⟨s0, s1, s2, s3, s4, s5, s6⟩
         go_simp
         with_reducible rfl
        rotate_left
        ·simp only [Act.put, List.setIfInBounds_toArray, List.set_cons_zero, List.set_cons_succ, i64_w, i32_w]
         rfl
        refine one_ (i := 2) (N := some 52) #[true, true, true, true, true, false, false, false, false, false, false, false, false, false, false, false] rfl rfl (one_of HT_.out (by kernel_rfl)) (by decide) (fun K hK => ?_)
        refine goes_ Try.func16 (by kernel_rfl) rfl #[.agg #[.slice A0_0 l0_0.length c0_0, .slice A0_1 l0_1.length c0_1]] (by rfl) rfl rfl ga_ ?_
        with_reducible refine (paymasterlaw14_ref.calls kj10 (fun k_ => k_ < w.heap.size) _ _ l0_0 _ _ l0_1 t498 t501 _ ?side1 ?side2 ?side3 A36.out).mono ?_
        (case side1 => exact Kd.V_mk HC0_0.out (Kd.F_below (Kd.C_F k58_heap HR0_0.out) bl_))
        (case side2 => exact kc_ (Kd.C_below HR0_1.out HB.out))
        (case side3 => exact HC0_1.out)
        rintro e w43 ⟨v499, v502, rfl, ho0, ho1, hb⟩
        refine ⟨_, rfl, ?_⟩
        have HO500 := Aside0.mk (Kd.V_lower (Kd.V_mono (ok' := fun k_ => some k_ ≠ (v502 : Value).ownBlock ∧ some k_ ≠ (.slice Ao20 t478.length co20 : Value).ownBlock ∧ some k_ ≠ (.slice Ao21 t481.length co21 : Value).ownBlock ∧ k_ ≠ gb472 ∧ k_ ≠ gb485) ho0 (fun k_ hk_ => ⟨hk_.2, Or.elim hk_.1 (fun hs_ => fun e_ => Nat.not_le.2 hs_ (Kd.R_base HO_486003.out k_ e_.symm)) (fun hn_ => (Kd.fresh' (Kd.R_lt (rq_ HO_486003.out)) k_ hn_)), Or.elim hk_.1 (fun hs_ => fun e_ => Nat.not_le.2 hs_ (Kd.R_base HO_486004.out k_ e_.symm)) (fun hn_ => (Kd.fresh' (Kd.R_lt (rq_ HO_486004.out)) k_ hn_)), Or.elim hk_.1 (fun hs_ => fun e_ => Nat.not_le.2 hs_ (by rw [e_]; exact GW472.out)) (fun hn_ => (Kd.freshB (g := gb472) (o := .cells #[.slice A0_0 l0_0.length c0_0, .slice A0_1 l0_1.length c0_1] 25 (0, 0)) (bq_ BK472.out) k_ hn_)), Or.elim hk_.1 (fun hs_ => fun e_ => Nat.not_le.2 hs_ (by rw [e_]; exact GW485.out)) (fun hn_ => (Kd.freshB (g := gb485) (o := .cells #[.int .i64 t475, .int .i64 t476, .int .i64 t477, .slice Ao20 t478.length co20, .slice Ao21 t481.length co21] 30 (0, 0)) (bq_ BK485.out) k_ hn_))⟩)) (below_size bl_))
        have HO503 := Aside0.mk (Kd.R_lower (Kd.R_mono (ok' := fun k_ => True) ho1 (fun _ hk_ => trivial)) (below_size bl_))
        replace HO_486003 := rl_ HO_486003.out hb
        replace HO_486004 := rl_ HO_486004.out hb
        replace BK472 := bb_ BK472.out hb
        replace BK485 := bb_ BK485.out hb
        replace HB := hs_ hb
        (try clear hb)
        (try clear hb2)
        (try clear hk)
        (try clear hi)
        (try clear ho0)
        (try clear ho1)
        obtain ⟨Ao44, co44, eo44⟩ := Kd.V_slice HO500.out
        (first | subst eo44 | (injection eo44 with f1_ f2_ f3_; have f4_ := f1_.symm; have f5_ := f3_.symm; clear f1_ f2_ f3_; subst f4_; subst f5_))
        obtain ⟨Ao45, co45, eo45⟩ := Kd.R_slice HO503.out
        (first | subst eo45 | (injection eo45 with f1_ f2_ f3_; have f4_ := f1_.symm; have f5_ := f3_.symm; clear f1_ f2_ f3_; subst f4_; subst f5_))
        refine hK.out _ _ ⟨(blk_cell BK485.out 0).trans rfl, (blk_cell BK485.out 1).trans rfl, (blk_cell BK485.out 2).trans rfl, (blk_cell BK485.out 3).trans rfl, (blk_cell BK485.out 4).trans rfl, (blk_cell BK472.out 0).trans rfl, (blk_cell BK472.out 1).trans rfl⟩ (fun hHeld => ?_)
        clear hK K
        refine norm_ (a' := ?_) ?_ ?_
        rotate_left
        ·show Act.put _ (some 52) _ = _
         simp only [Act.put, List.setIfInBounds_toArray, List.set_cons_zero, List.set_cons_succ, i64_w, i32_w]
         rfl
        refine one_ (i := 5) (N := some 55) #[true, true, true, true, true, true, false, false, false, false, false, false, false, false, false, false] rfl rfl (one_of HT_.out (by kernel_rfl)) (by decide) (fun K hK => ?_)
        refine goes_ Try.func18 (by kernel_rfl) rfl #[.agg #[.slice Ao44 t498.length co44, .slice Ao45 t501.length co45], .int .i64 a1, .int .i64 a2] (by rfl) rfl rfl ga_ ?_
        with_reducible refine (paymasterref14_Due.calls kj10 _ _ t498 _ _ t501 a1 a2 t504 t505 t506 t507 t510 _ ?side1 ?side2 ?side3 ?side4 A37.out).mono ?_
        (case side1 => exact kc_ (Kd.V_reads' HO500.out).2.2)
        (case side2 => exact (Kd.V_reads' HO500.out).2.1)
        (case side3 => exact kc_ (Kd.R_reads' HO503.out).2.2)
        (case side4 => exact (Kd.R_reads' HO503.out).2.1)
        rintro e w46 ⟨v508, v511, rfl, ho0, ho1, hb⟩
        refine ⟨_, rfl, ?_⟩
        have HO509 := rl0_ (rn_ (rn_ ho0 HO_486003.out) HO_486004.out)
        have HO512 := rl0_ (rn_ (rn_ ho1 HO_486003.out) HO_486004.out)
        replace HO_486003 := ro2_ HO_486003.out hb ho0 ho1
        replace HO_486004 := ro2_ HO_486004.out hb ho0 ho1
        replace HO500 := Aside0.mk (Kd.V_mono (Kd.V_told (Kd.V_told (Kd.V_old (by refine kv_ ?_; exact HO500.out) hb) (Kd.R_base ho0)) (Kd.R_base ho1)) (fun _ h_ => h_.1))
        replace HO503 := rl_ HO503.out hb
        replace BK472 := bb_ BK472.out hb
        replace BK485 := bb_ BK485.out hb
        replace HB := hs_ hb
        (try clear hb)
        (try clear hb2)
        (try clear hk)
        (try clear hi)
        (try clear ho0)
        (try clear ho1)
        obtain ⟨Ao47, co47, eo47⟩ := Kd.R_slice HO509.out
        (first | subst eo47 | (injection eo47 with f1_ f2_ f3_; have f4_ := f1_.symm; have f5_ := f3_.symm; clear f1_ f2_ f3_; subst f4_; subst f5_))
        obtain ⟨Ao48, co48, eo48⟩ := Kd.R_slice HO512.out
        (first | subst eo48 | (injection eo48 with f1_ f2_ f3_; have f4_ := f1_.symm; have f5_ := f3_.symm; clear f1_ f2_ f3_; subst f4_; subst f5_))
        refine hK.out _ _ ⟨(blk_cell BK485.out 0).trans rfl, (blk_cell BK485.out 1).trans rfl, (blk_cell BK485.out 2).trans rfl, (blk_cell BK485.out 3).trans rfl, (blk_cell BK485.out 4).trans rfl, (blk_cell BK472.out 0).trans rfl, (blk_cell BK472.out 1).trans rfl⟩ (fun hHeld => ?_)
        clear hK K
        refine norm_ (a' := ?_) ?_ ?_
        rotate_left
        ·show Act.put _ (some 55) _ = _
         simp only [Act.put, List.setIfInBounds_toArray, List.set_cons_zero, List.set_cons_succ, i64_w, i32_w]
         rfl
        refine one_ (i := 6) (N := some 56) #[true, true, true, true, true, true, true, false, false, false, false, false, false, false, false, false] rfl rfl (one_of HT_.out (by kernel_rfl)) (by decide) (fun K hK => ?_)
        refine goes_ Try.func13 (by kernel_rfl) rfl #[.agg #[.int .i64 t475, .int .i64 t476, .int .i64 t477, .slice Ao20 t478.length co20, .slice Ao21 t481.length co21], .agg #[.int .i64 t504, .int .i64 t505, .int .i64 t506, .slice Ao47 t507.length co47, .slice Ao48 t510.length co48]] (by rfl) rfl rfl ga_ ?_
        with_reducible refine (paymasterref14_Same.calls kj10 t475 t476 t477 _ _ t478 _ _ t481 t504 t505 t506 _ _ t507 _ _ t510 true _ ?side1 ?side2 ?side3 ?side4 ?side5 ?side6 ?side7 ?side8 A38.out).mono ?_
        (case side1 => exact kc_ (Kd.R_reads' HO_486003.out).2.2)
        (case side2 => exact (Kd.R_reads' HO_486003.out).2.1)
        (case side3 => exact kc_ (Kd.R_reads' HO_486004.out).2.2)
        (case side4 => exact (Kd.R_reads' HO_486004.out).2.1)
        (case side5 => exact kc_ (Kd.R_reads' HO509.out).2.2)
        (case side6 => exact (Kd.R_reads' HO509.out).2.1)
        (case side7 => exact kc_ (Kd.R_reads' HO512.out).2.2)
        (case side8 => exact (Kd.R_reads' HO512.out).2.1)
        rintro e w49 ⟨rfl, hb⟩
        refine ⟨_, rfl, ?_⟩
        replace HO_486003 := rl_ HO_486003.out hb
        replace HO_486004 := rl_ HO_486004.out hb
        replace HO500 := Aside0.mk (Kd.V_below (by refine kv_ ?_; exact HO500.out) hb)
        replace HO503 := rl_ HO503.out hb
        replace HO509 := rl_ HO509.out hb
        replace HO512 := rl_ HO512.out hb
        replace BK472 := bb_ BK472.out hb
        replace BK485 := bb_ BK485.out hb
        replace HB := hs_ hb
        (try clear hb)
        (try clear hb2)
        (try clear hk)
        (try clear hi)
        refine hK.out _ _ ⟨(blk_cell BK485.out 0).trans rfl, (blk_cell BK485.out 1).trans rfl, (blk_cell BK485.out 2).trans rfl, (blk_cell BK485.out 3).trans rfl, (blk_cell BK485.out 4).trans rfl, (blk_cell BK472.out 0).trans rfl, (blk_cell BK472.out 1).trans rfl⟩ (fun hHeld => ?_)
        clear hK K
        refine norm_ (a' := ?_) ?_ ?_
        rotate_left
        ·show Act.put _ (some 56) _ = _
         simp only [Act.put, List.setIfInBounds_toArray, List.set_cons_zero, List.set_cons_succ, i64_w, i32_w]
         rfl
        refine pure_ (i := 7) (N := some 57) (v := ?_) (a' := ?_) #[true, true, true, true, true, true, true, true, false, false, false, false, false, false, false, false] rfl rfl (any_of HT_.out (by kernel_rfl)) (fun _ _ _ h => h) (Or.inl ⟨by rfl, ?_⟩) ?_ ?_
        rotate_left
        ·intro w'
         go_simp
         with_reducible rfl
        rotate_left
        ·simp only [Act.put, List.setIfInBounds_toArray, List.set_cons_zero, List.set_cons_succ, i64_w, i32_w]
         rfl
        refine pure_ (i := 8) (N := some 58) (v := ?_) (a' := ?_) #[true, true, true, true, true, true, true, true, true, false, false, false, false, false, false, false] rfl rfl (any_of HT_.out (by kernel_rfl)) (fun _ _ _ h => h) (Or.inl ⟨by rfl, ?_⟩) ?_ ?_
        rotate_left
        ·intro w'
         go_simp
         with_reducible rfl
        rotate_left
        ·simp only [Act.put, List.setIfInBounds_toArray, List.set_cons_zero, List.set_cons_succ, i64_w, i32_w]
         rfl
        refine pure_ (i := 9) (N := some 59) (v := ?_) (a' := ?_) #[true, true, true, true, true, true, true, true, true, true, false, false, false, false, false, false] rfl rfl (any_of HT_.out (by kernel_rfl)) (fun _ _ _ h => h) (Or.inl ⟨by rfl, ?_⟩) ?_ ?_
        rotate_left
        ·intro w'
         go_simp
         with_reducible rfl
        rotate_left
        ·simp only [Act.put, List.setIfInBounds_toArray, List.set_cons_zero, List.set_cons_succ, i64_w, i32_w]
         rfl
        refine pure_ (i := 10) (N := some 60) (v := ?_) (a' := ?_) #[true, true, true, true, true, true, true, true, true, true, true, false, false, false, false, false] rfl rfl (any_of HT_.out (by kernel_rfl)) (fun _ _ _ h => h) (Or.inl ⟨by rfl, ?_⟩) ?_ ?_
        rotate_left
        ·intro w'
         go_simp
         with_reducible rfl
        rotate_left
        ·simp only [Act.put, List.setIfInBounds_toArray, List.set_cons_zero, List.set_cons_succ, i64_w, i32_w]
         rfl
        refine pure_ (i := 11) (N := some 61) (v := ?_) (a' := ?_) #[true, true, true, true, true, true, true, true, true, true, true, true, false, false, false, false] rfl rfl (any_of HT_.out (by kernel_rfl)) (fun _ _ _ h => h) (Or.inl ⟨by rfl, ?_⟩) ?_ ?_
        rotate_left
        ·intro w'
         go_simp
         with_reducible rfl
        rotate_left
        ·simp only [Act.put, List.setIfInBounds_toArray, List.set_cons_zero, List.set_cons_succ, i64_w, i32_w]
         rfl
        refine pure_ (i := 12) (N := some 62) (v := ?_) (a' := ?_) #[true, true, true, true, true, true, true, true, true, true, true, true, true, false, false, false] rfl rfl (any_of HT_.out (by kernel_rfl)) (fun _ _ _ h => h) (Or.inl ⟨by rfl, ?_⟩) ?_ ?_
        rotate_left
        ·intro w'
         go_simp
         with_reducible rfl
        rotate_left
        ·simp only [Act.put, List.setIfInBounds_toArray, List.set_cons_zero, List.set_cons_succ, i64_w, i32_w]
         rfl
        refine one_ (i := 13) (N := some 63) #[true, true, true, true, true, true, true, true, true, true, true, true, true, true, false, false] rfl rfl (one_of HT_.out (by kernel_rfl)) (by decide) (fun K hK => ?_)
        refine goes_ Try.func10 (by kernel_rfl) rfl #[] (by rfl) rfl rfl ga_ ?_
        with_reducible refine (paymasterlaw14_awake.calls kj10  t514 _ A41.out).mono ?_
        rintro e w50 ⟨rfl, hb⟩
        refine ⟨_, rfl, ?_⟩
        replace HO_486003 := rl_ HO_486003.out hb
        replace HO_486004 := rl_ HO_486004.out hb
        replace HO500 := Aside0.mk (Kd.V_below (by refine kv_ ?_; exact HO500.out) hb)
        replace HO503 := rl_ HO503.out hb
        replace HO509 := rl_ HO509.out hb
        replace HO512 := rl_ HO512.out hb
        replace BK472 := bb_ BK472.out hb
        replace BK485 := bb_ BK485.out hb
        replace HB := hs_ hb
        (try clear hb)
        (try clear hb2)
        (try clear hk)
        (try clear hi)
        refine hK.out _ _ ⟨(blk_cell BK485.out 0).trans rfl, (blk_cell BK485.out 1).trans rfl, (blk_cell BK485.out 2).trans rfl, (blk_cell BK485.out 3).trans rfl, (blk_cell BK485.out 4).trans rfl, (blk_cell BK472.out 0).trans rfl, (blk_cell BK472.out 1).trans rfl⟩ (fun hHeld => ?_)
        clear hK K
        refine norm_ (a' := ?_) ?_ ?_
        rotate_left
        ·show Act.put _ (some 63) _ = _
         simp only [Act.put, List.setIfInBounds_toArray, List.set_cons_zero, List.set_cons_succ, i64_w, i32_w]
         rfl
        refine pure_ (i := 14) (N := some 64) (v := ?_) (a' := ?_) #[true, true, true, true, true, true, true, true, true, true, true, true, true, true, true, false] rfl rfl (any_of HT_.out (by kernel_rfl)) (fun _ _ _ h => h) (Or.inl ⟨by rfl, ?_⟩) ?_ ?_
        rotate_left
        ·intro w'
         go_simp
         with_reducible rfl
        rotate_left
        ·simp only [Act.put, List.setIfInBounds_toArray, List.set_cons_zero, List.set_cons_succ, i64_w, i32_w]
         rfl
        refine pure_ (i := 15) (N := some 6) (v := ?_) (a' := ?_) #[true, true, true, true, true, true, true, true, true, true, true, true, true, true, true, true] rfl rfl (any_of HT_.out (by kernel_rfl)) (fun _ _ _ h => h) (Or.inl ⟨by rfl, ?_⟩) ?_ ?_
        rotate_left
        ·intro w'
         go_simp
         with_reducible rfl
        rotate_left
        ·simp only [Act.put, List.setIfInBounds_toArray, List.set_cons_zero, List.set_cons_succ, i64_w, i32_w]
         rfl
        refine done_ (done_of HT_.out (by kernel_rfl)) ?_
        try go_wp2
        go_ret
        exact ⟨se_, bl_⟩
       ·rw [if_neg c40] at H
        exact absurd H (by simp)
      ·replace c39 := Bool.eq_false_iff.mpr c39
       subst c39
       rw [if_neg (show ¬ (false = true) by decide)] at H
       exact absurd H (by simp)
     ·rw [if_neg c35] at H
      have c35b0 : (x10_10 == 0) = false := beq_eq_false_iff_ne.mpr c35
      have c35b1 : (x10_10 != 0) = true := bne_iff_ne.mpr c35
      replace H := Option.bind_eq_some_iff.mp H
      obtain ⟨t496, A510, H⟩ := H
      (try dsimp only at H)
      have A51 := Aside0.mk A510
      clear A510
      by_cases c52 : t496 = true
      ·subst c52
       rw [if_pos rfl] at H
       by_cases c53 : t484 = x10_10
       ·rw [if_pos c53] at H
        have c53b0 : (t484 == x10_10) = true := beq_iff_eq.mpr c53
        have c53b1 : (t484 != x10_10) = false := bne_eq_false_iff_eq.mpr c53
        clear c53
        replace H := Option.bind_eq_some_iff.mp H
        obtain ⟨t497, A540, H⟩ := H
        (try dsimp only at H)
        have A54 := Aside0.mk A540
        clear A540
        obtain rfl := Option.some.inj H
        have hnb55 := NB485_472.out
        have hnc55 := NB472_485.out
        obtain ⟨hcz56_0, hcz56_1, hcz56_2, hcz56_3, hcz56_4, hfz56_0, hfz56_1, hfz56_2, hfz56_3, hfz56_4⟩ := c5_ BK485.out
        go_wp2_with (first | ((with_reducible refine gate_callee (f := 13) rfl ?_); refine goesL_ (some 41) rfl rfl Try.func13 (by kernel_rfl) rfl #[.agg #[.int .i64 t475, .int .i64 t476, .int .i64 t477, .slice Ao20 t478.length co20, .slice Ao21 t481.length co21], .agg #[.int .i64 0, .int .i64 0, .int .i64 0, .slice none 0 0, .slice none 0 0]] rfl ga_ ?_; (refine (paymasterref14_Same.calls kj10 t475 t476 t477 _ _ t478 _ _ t481 0 0 0 _ _ ([] : List Int) _ _ ([] : List Int) true _ ?side1 ?side2 ?side3 ?side4 ?side5 ?side6 ?side7 ?side8 A51.out).mono ?_); (case side1 => exact kc_ (Kd.R_reads' HO_486003.out).2.2); (case side2 => exact (Kd.R_reads' HO_486003.out).2.1); (case side3 => exact kc_ (Kd.R_reads' HO_486004.out).2.2); (case side4 => exact (Kd.R_reads' HO_486004.out).2.1); (case side5 => exact Kd.C_nil _ _); (case side6 => exact Nat.le_refl _); (case side7 => exact Kd.C_nil _ _); (case side8 => exact Nat.le_refl _); rintro e w57 ⟨rfl, hb⟩; refine ⟨_, rfl, ?_⟩; replace HO_486003 := rl_ HO_486003.out hb; replace HO_486004 := rl_ HO_486004.out hb; replace BK472 := bb_ BK472.out hb; replace BK485 := bb_ BK485.out hb; replace HB := hs_ hb; (try clear hb); (try clear hb2); (try clear hk); (try clear hi)) | (go_at_call 10; (with_reducible refine (paymasterlaw14_awake.calls kj10  t497 _ A54.out).mono ?_); rintro e w58 ⟨rfl, hb⟩; replace HO_486003 := rl_ HO_486003.out hb; replace HO_486004 := rl_ HO_486004.out hb; replace BK472 := bb_ BK472.out hb; replace BK485 := bb_ BK485.out hb; replace HB := hs_ hb; (try clear hb); (try clear hb2); (try clear hk); (try clear hi)))
        go_ret
        exact ⟨se_, bl_⟩
       ·rw [if_neg c53] at H
        exact absurd H (by simp)
      ·replace c52 := Bool.eq_false_iff.mpr c52
       subst c52
       rw [if_neg (show ¬ (false = true) by decide)] at H
       exact absurd H (by simp)
 ·replace c5 := Bool.eq_false_iff.mpr c5
  subst c5
  rw [if_neg (show ¬ (false = true) by decide)] at H
  replace H := Option.bind_eq_some_iff.mp H
  obtain ⟨t474, A590, H⟩ := H
  (try dsimp only at H)
  have A59 := Aside0.mk A590
  clear A590
  obtain rfl := Option.some.inj H
  go_enter Try.func5, Try.ntmps5
  go_wp2_with (first | ((with_reducible refine gate_dst (N := 3) rfl ?_); refine bx_ 3 #[.slice A0_0 l0_0.length c0_0, .slice A0_1 l0_1.length c0_1] 25 ?_; intro gb472 hg w60 hbox hb; have BK472 := Aside0.mk hbox; have GW472 := gs_ hg; have GE472 := gs_ hg; replace HB := hs_ hb; clear hb hbox hg; obtain ⟨hcz61_0, hcz61_1, hfz61_0, hfz61_1⟩ := c2_ BK472.out) | ((with_reducible refine gate_callee (f := 9) rfl ?_); refine goesL_ (some 12) rfl rfl Try.func9 (by kernel_rfl) rfl #[.agg #[.slice A0_0 l0_0.length c0_0, .slice A0_1 l0_1.length c0_1]] rfl ga_ ?_; (with_reducible refine (paymasterlaw14_small.calls _ _ l0_0 _ _ l0_1 false _ ?side1 ?side2 ?side3 ?side4 A4.out).mono ?_); (case side1 => exact kc_ (Kd.C_below HR0_0.out HB.out)); (case side2 => exact HC0_0.out); (case side3 => exact kc_ (Kd.C_below HR0_1.out HB.out)); (case side4 => exact HC0_1.out); rintro e w62 ⟨rfl, hb⟩; refine ⟨_, rfl, ?_⟩; replace BK472 := bb_ BK472.out hb; replace HB := hs_ hb; (try clear hb); (try clear hb2); (try clear hk); (try clear hi)) | ((with_reducible refine gate_callee (f := 10) rfl ?_); refine goesL_ (some 14) rfl rfl Try.func10 (by kernel_rfl) rfl #[] rfl ga_ ?_; (with_reducible refine (paymasterlaw14_awake.calls k  t474 _ A59.out).mono ?_); rintro e w63 ⟨rfl, hb⟩; refine ⟨_, rfl, ?_⟩; replace BK472 := bb_ BK472.out hb; replace HB := hs_ hb; (try clear hb); (try clear hb2); (try clear hk); (try clear hi)))
  go_ret
  exact ⟨se_, bl_⟩

end Go.Proofs.Ytocaneaofdbpoaa.PA
