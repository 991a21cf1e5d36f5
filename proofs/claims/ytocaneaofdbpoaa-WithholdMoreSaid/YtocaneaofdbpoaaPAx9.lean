/- Contracts of the functions of the given program: written by wip/pmprint.py, a program of this session, which runs the print of the kit over altered functions. -/
import Derived.Test.YtocaneaofdbpoaaPAx0
import Derived.Test.YtocaneaofdbpoaaPAx1
import Derived.Test.YtocaneaofdbpoaaPAx5
import Derived.Test.YtocaneaofdbpoaaPAx8
namespace Go.Proofs.Ytocaneaofdbpoaa.PA
open Go.RowKit Go.Proofs.YtocaneaofdbpoaaW.PrintWords Go.Proofs.YtocaneaofdbpoaaW.PrintLast Go.Proofs.YtocaneaofdbpoaaW.PrintMore
attribute [local go_sem] max2_int min2_int max_two min_two max_three min_three max_four min_four   -- for this text's walks alone
set_option linter.unusedVariables false
set_option linter.unusedSimpArgs false

/-! ### paymasterlaw14_WithholdMore: function 4 -/
mutual
def paymasterlaw14_WithholdMore.j0 : Nat → Int → Int → Int → Int → Bool → List (S58) → List (S41) → Int → Int → Int → List Int → List Int → Int → Int → Int → List Int → List Int → Option (Bool)
  | 0, _, _, _, _, _, _, _, _, _, _, _, _, _, _, _, _, _ => none
  | k + 1, x9, x10, x13, x15, x53, x280000, x280001, x293000, x293001, x293002, x293003, x293004, x304000, x304001, x304002, x304003, x304004 => if x53 = true then (if x13 = x15 then ((paymasterlaw14_awake.f k).bind fun t304 => (some t304)) else (none)) else (if x293002 < 0 then (paymasterlaw14_WithholdMore.j1 k x10 true x280000 x280001 x293000 x293001 x293002 x293003 x293004 x304000 x304001 x304002 x304003 x304004) else (if x293002 > x9 then (paymasterlaw14_WithholdMore.j1 k x10 true x280000 x280001 x293000 x293001 x293002 x293003 x293004 x304000 x304001 x304002 x304003 x304004) else (if x304002 < x293002 then (paymasterlaw14_WithholdMore.j1 k x10 true x280000 x280001 x293000 x293001 x293002 x293003 x293004 x304000 x304001 x304002 x304003 x304004) else (if (x293003.length : Int) = (x280001.length : Int) then (if (x304003.length : Int) = (x280001.length : Int) then (if (x293004.length : Int) = (x280001.length : Int) then (paymasterlaw14_WithholdMore.j1 k x10 ((x304004.length : Int) != (x280001.length : Int)) x280000 x280001 x293000 x293001 x293002 x293003 x293004 x304000 x304001 x304002 x304003 x304004) else (paymasterlaw14_WithholdMore.j1 k x10 true x280000 x280001 x293000 x293001 x293002 x293003 x293004 x304000 x304001 x304002 x304003 x304004)) else (paymasterlaw14_WithholdMore.j1 k x10 true x280000 x280001 x293000 x293001 x293002 x293003 x293004 x304000 x304001 x304002 x304003 x304004)) else (paymasterlaw14_WithholdMore.j1 k x10 true x280000 x280001 x293000 x293001 x293002 x293003 x293004 x304000 x304001 x304002 x304003 x304004)))))
def paymasterlaw14_WithholdMore.j1 : Nat → Int → Bool → List (S58) → List (S41) → Int → Int → Int → List Int → List Int → Int → Int → Int → List Int → List Int → Option (Bool)
  | 0, _, _, _, _, _, _, _, _, _, _, _, _, _, _ => none
  | k + 1, x10, x111, x280000, x280001, x293000, x293001, x293002, x293003, x293004, x304000, x304001, x304002, x304003, x304004 => if x111 = true then (none) else (paymasterlaw14_WithholdMore.l0 k x10 (x293003.length : Int) 0 x280000 x280001 x293000 x293001 x293002 x293003 x293004 x304000 x304001 x304002 x304003 x304004)
def paymasterlaw14_WithholdMore.l0 : Nat → Int → Int → Int → List (S58) → List (S41) → Int → Int → Int → List Int → List Int → Int → Int → Int → List Int → List Int → Option (Bool)
  | 0, _, _, _, _, _, _, _, _, _, _, _, _, _, _, _ => none
  | k + 1, x10, x114, x115, x280000, x280001, x293000, x293001, x293002, x293003, x293004, x304000, x304001, x304002, x304003, x304004 => if x115 < x114 then (if 0 ≤ x115 then (if x115 < (x293003.length : Int) then (if (rd x293003 x115) < 0 then (none) else (if (rd x293003 x115) > x10 then (none) else (if x115 < (x304003.length : Int) then (if (rd x304003 x115) < (rd x293003 x115) then (none) else (if x115 < (x304004.length : Int) then (if x115 < (x293004.length : Int) then (if (rd x304004 x115) < (rd x293004 x115) then (none) else (if x115 < (x280001.length : Int) then (if (rd x304003 x115) > ((rd_T41 x280001 x115).f2) then (none) else (paymasterlaw14_WithholdMore.l0 k x10 x114 (wrap64 (x115 + 1)) x280000 x280001 x293000 x293001 x293002 x293003 x293004 x304000 x304001 x304002 x304003 x304004)) else (none))) else (none)) else (none))) else (none)))) else (none)) else (none)) else ((paymasterlaw14_awake.f k).bind fun t313 => (some t313))
end
def paymasterlaw14_WithholdMore.f (k : Nat) (l0_0 : List (S58)) (l0_1 : List (S41)) (a1 : Int) (a2 : Int) (a3 : Int) : Option (Bool) := (paymasterlaw14_small.f l0_0 l0_1).bind fun t280 => (if t280 = true then ((withhold_Due.f k l0_0 l0_1 (wrap64 (Int.tmod a1 281474976710656)) (wrap64 (Int.tmod a2 281474976710656))).bind fun bt282 => ((withhold_Due.f k l0_0 l0_1 (wrap64 ((wrap64 (Int.tmod a1 281474976710656)) + (wrap64 (Int.tmod a3 281474976710656)))) (wrap64 ((wrap64 (Int.tmod a2 281474976710656)) + (wrap64 (Int.tmod a3 281474976710656))))).bind fun bt293 => (if bt282.2.2.2.2.2 = 0 then (paymasterlaw14_WithholdMore.j0 k (wrap64 (Int.tmod a1 281474976710656)) (wrap64 (Int.tmod a2 281474976710656)) bt282.2.2.2.2.2 bt293.2.2.2.2.2 (bt293.2.2.2.2.2 != 0) l0_0 l0_1 bt282.1 bt282.2.1 bt282.2.2.1 bt282.2.2.2.1 bt282.2.2.2.2.1 bt293.1 bt293.2.1 bt293.2.2.1 bt293.2.2.2.1 bt293.2.2.2.2.1) else (paymasterlaw14_WithholdMore.j0 k (wrap64 (Int.tmod a1 281474976710656)) (wrap64 (Int.tmod a2 281474976710656)) bt282.2.2.2.2.2 bt293.2.2.2.2.2 true l0_0 l0_1 bt282.1 bt282.2.1 bt282.2.2.1 bt282.2.2.2.1 bt282.2.2.2.2.1 bt293.1 bt293.2.1 bt293.2.2.1 bt293.2.2.2.1 bt293.2.2.2.2.1)))) else ((paymasterlaw14_awake.f k).bind fun t281 => (some t281)))
set_option maxHeartbeats 8000000 in
set_option maxRecDepth 100000 in
theorem paymasterlaw14_WithholdMore.calls (k : Nat) (A0_0 : Option Addr) (c0_0 : Nat) (l0_0 : List (S58)) (A0_1 : Option Addr) (c0_1 : Nat) (l0_1 : List (S41)) (a1 : Int) (a2 : Int) (a3 : Int) (r : Bool) (w : World) (hr0_0 : Kd.C k58 w A0_0 l0_0.length l0_0) (hc0_0 : l0_0.length ≤ c0_0) (hr0_1 : Kd.C k41 w A0_1 l0_1.length l0_1) (hc0_1 : l0_1.length ≤ c0_1) (h : paymasterlaw14_WithholdMore.f k l0_0 l0_1 a1 a2 a3 = some r) :
    Calls Try.prog 4 #[.agg #[.slice A0_0 l0_0.length c0_0, .slice A0_1 l0_1.length c0_1], .int .u64 a1, .int .u64 a2, .int .u64 a3] w fun e w' => e = .returned (.bool r) ∧ Below w.heap.size w w' := by
 have hu25 := Try.underlying25
 have hu30 := Try.underlying30
 have HR0_0 := Aside0.mk hr0_0
 have HC0_0 := Aside0.mk hc0_0
 clear hr0_0 hc0_0
 have HR0_1 := Aside0.mk hr0_1
 have HC0_1 := Aside0.mk hc0_1
 clear hr0_1 hc0_1
 have HB := Aside0.mk (Below.refl w.heap.size w)
 have H : ((paymasterlaw14_small.f l0_0 l0_1).bind fun t280 => (if t280 = true then ((withhold_Due.f k l0_0 l0_1 (wrap64 (Int.tmod a1 281474976710656)) (wrap64 (Int.tmod a2 281474976710656))).bind fun bt282 => ((withhold_Due.f k l0_0 l0_1 (wrap64 ((wrap64 (Int.tmod a1 281474976710656)) + (wrap64 (Int.tmod a3 281474976710656)))) (wrap64 ((wrap64 (Int.tmod a2 281474976710656)) + (wrap64 (Int.tmod a3 281474976710656))))).bind fun bt293 => (if bt282.2.2.2.2.2 = 0 then (paymasterlaw14_WithholdMore.j0 k (wrap64 (Int.tmod a1 281474976710656)) (wrap64 (Int.tmod a2 281474976710656)) bt282.2.2.2.2.2 bt293.2.2.2.2.2 (bt293.2.2.2.2.2 != 0) l0_0 l0_1 bt282.1 bt282.2.1 bt282.2.2.1 bt282.2.2.2.1 bt282.2.2.2.2.1 bt293.1 bt293.2.1 bt293.2.2.1 bt293.2.2.2.1 bt293.2.2.2.2.1) else (paymasterlaw14_WithholdMore.j0 k (wrap64 (Int.tmod a1 281474976710656)) (wrap64 (Int.tmod a2 281474976710656)) bt282.2.2.2.2.2 bt293.2.2.2.2.2 true l0_0 l0_1 bt282.1 bt282.2.1 bt282.2.2.1 bt282.2.2.2.1 bt282.2.2.2.2.1 bt293.1 bt293.2.1 bt293.2.2.1 bt293.2.2.2.1 bt293.2.2.2.2.1)))) else ((paymasterlaw14_awake.f k).bind fun t281 => (some t281)))) = some r := h
 clear h
 replace H := Option.bind_eq_some_iff.mp H
 obtain ⟨t280, A50, H⟩ := H
 (try dsimp only at H)
 have A5 := Aside0.mk A50
 clear A50
 by_cases c6 : t280 = true
 ·subst c6
  rw [if_pos rfl] at H
  replace H := Option.bind_eq_some_iff.mp H
  obtain ⟨⟨t282, t283, t284, t285, t288, t291⟩, A70, H⟩ := H
  (try dsimp only at H)
  have A7 := Aside0.mk A70
  clear A70
  replace H := Option.bind_eq_some_iff.mp H
  obtain ⟨⟨t293, t294, t295, t296, t299, t302⟩, A80, H⟩ := H
  (try dsimp only at H)
  have A8 := Aside0.mk A80
  clear A80
  have HC9 := Aside0.mk H
  clear H
  go_enter Try.func4, Try.ntmps4
  go_upto_region 6 with (first | ((with_reducible refine gate_dst (N := 4) rfl ?_); (try (refine gate_guard (by rfl) ?_; dsimp only)); refine bx_ 4 #[.slice A0_0 l0_0.length c0_0, .slice A0_1 l0_1.length c0_1] 25 ?_; intro gb279 hg w10 hbox hb; have BK279 := Aside0.mk hbox; have GW279 := gs_ hg; have GE279 := gs_ hg; replace HB := hs_ hb; clear hb hbox hg; have hcz11_0 := bc0_ BK279.out; have hcz11_1 := bc1_ BK279.out; have hfz11_0 := blk_frozen BK279.out 0; have hfz11_1 := blk_frozen BK279.out 1) | (go_at_call 9; (with_reducible refine (paymasterlaw14_small.calls _ _ l0_0 _ _ l0_1 true _ ?side1 ?side2 ?side3 ?side4 A5.out).mono ?_); (case side1 => exact kc_ (Kd.C_below HR0_0.out HB.out)); (case side2 => exact HC0_0.out); (case side3 => exact kc_ (Kd.C_below HR0_1.out HB.out)); (case side4 => exact HC0_1.out); rintro e w12 ⟨rfl, hb⟩; replace BK279 := bb_ BK279.out hb; replace HB := hs_ hb; (try clear hb); (try clear hb2); (try clear hk); (try clear hi); have hcz13_0 := bc0_ BK279.out; have hcz13_1 := bc1_ BK279.out; have hfz13_0 := blk_frozen BK279.out 0; have hfz13_1 := blk_frozen BK279.out 1) | (go_at_call 14; (with_reducible refine (withhold_Due.calls k _ _ l0_0 _ _ l0_1 (wrap64 (Int.tmod a1 281474976710656)) (wrap64 (Int.tmod a2 281474976710656)) t282 t283 t284 t285 t288 t291 _ ?side1 ?side2 ?side3 ?side4 A7.out).mono ?_); (case side1 => exact kc_ (Kd.C_below HR0_0.out HB.out)); (case side2 => exact HC0_0.out); (case side3 => exact kc_ (Kd.C_below HR0_1.out HB.out)); (case side4 => exact HC0_1.out); rintro e w14 ⟨v286, v289, rfl, ho0, ho1, hb⟩; have HO287 := Aside0.mk (Kd.R_lower ho0 (below_size bl_)); have HO290 := Aside0.mk (Kd.R_lower ho1 (below_size bl_)); replace BK279 := bb_ BK279.out hb; replace HB := hs_ hb; (try clear hb); (try clear hb2); (try clear hk); (try clear hi); (try clear ho0); (try clear ho1)) | ((with_reducible refine gate_dst (N := 12) rfl ?_); (try (refine gate_guard (by rfl) ?_; dsimp only)); refine bx_ 12 #[.int .i64 0, .int .i64 0, .int .i64 0, .slice none 0 0, .slice none 0 0] 30 ?_; intro gb292 hg w15 hbox hb; have BK292 := Aside0.mk hbox; have GW292 := gs_ hg; have GE292 := gs_ hg; have NB279_292 := nl_ hg BK279.out; have NB292_279 := ng_ hg BK279.out; replace HO287 := rl_ HO287.out hb; replace HO290 := rl_ HO290.out hb; replace BK279 := bb_ BK279.out hb; replace HB := hs_ hb; clear hb hbox hg; have hnb16 := NB292_279.out; have hnc16 := NB279_292.out; have hcz17_0 := bc0_ BK292.out; have hcz17_1 := bc1_ BK292.out; have hcz17_2 := bc2_ BK292.out; have hcz17_3 := bc3_ BK292.out; have hcz17_4 := bc4_ BK292.out; have hfz17_0 := blk_frozen BK292.out 0; have hfz17_1 := blk_frozen BK292.out 1; have hfz17_2 := blk_frozen BK292.out 2; have hfz17_3 := blk_frozen BK292.out 3; have hfz17_4 := blk_frozen BK292.out 4; obtain ⟨Ao18, co18, eo18⟩ := Kd.R_slice HO287.out; subst eo18; obtain ⟨Ao19, co19, eo19⟩ := Kd.R_slice HO290.out; subst eo19; have hcz20_0 := bc0_ BK279.out; have hcz20_1 := bc1_ BK279.out; have hfz20_0 := blk_frozen BK279.out 0; have hfz20_1 := blk_frozen BK279.out 1) | (go_at_call 14; (with_reducible refine (withhold_Due.calls k _ _ l0_0 _ _ l0_1 (wrap64 ((wrap64 (Int.tmod a1 281474976710656)) + (wrap64 (Int.tmod a3 281474976710656)))) (wrap64 ((wrap64 (Int.tmod a2 281474976710656)) + (wrap64 (Int.tmod a3 281474976710656)))) t293 t294 t295 t296 t299 t302 _ ?side1 ?side2 ?side3 ?side4 A8.out).mono ?_); (case side1 => exact Kd.C_below HR0_0.out bl_); (case side2 => exact HC0_0.out); (case side3 => exact Kd.C_below HR0_1.out bl_); (case side4 => exact HC0_1.out); rintro e w21 ⟨v297, v300, rfl, ho0, ho1, hb⟩; have HO298 := Aside0.mk (Kd.R_lower (Kd.R_new' (Kd.R_new' ho0 (Kd.R_lt (by refine kr_ ?_; exact (Kd.R_mono (rf5_ (Kd.R_types HO287.out BK292.out (by decide))) (fun _ h_ => h_.1))))) (Kd.R_lt (by refine kr_ ?_; exact (Kd.R_mono (rf5_ (Kd.R_types HO290.out BK292.out (by decide))) (fun _ h_ => h_.1))))) (below_size bl_)); have HO301 := Aside0.mk (Kd.R_lower (Kd.R_new' (Kd.R_new' ho1 (Kd.R_lt (by refine kr_ ?_; exact (Kd.R_mono (rf5_ (Kd.R_types HO287.out BK292.out (by decide))) (fun _ h_ => h_.1))))) (Kd.R_lt (by refine kr_ ?_; exact (Kd.R_mono (rf5_ (Kd.R_types HO290.out BK292.out (by decide))) (fun _ h_ => h_.1))))) (below_size bl_)); replace HO287 := Aside0.mk (Kd.R_mono (Kd.R_told (Kd.R_told (Kd.R_old (by refine kr_ ?_; exact (Kd.R_mono (rf5_ (Kd.R_types HO287.out BK292.out (by decide))) (fun _ h_ => h_.1))) hb) (Kd.R_base ho0)) (Kd.R_base ho1)) (fun _ h_ => h_.1)); replace HO290 := Aside0.mk (Kd.R_mono (Kd.R_told (Kd.R_told (Kd.R_old (by refine kr_ ?_; exact (Kd.R_mono (rf5_ (Kd.R_types HO290.out BK292.out (by decide))) (fun _ h_ => h_.1))) hb) (Kd.R_base ho0)) (Kd.R_base ho1)) (fun _ h_ => h_.1)); replace BK279 := bb_ BK279.out hb; replace BK292 := Aside0.mk (blk_below (g := gb292) (o := .cells #[.int .i64 t282, .int .i64 t283, .int .i64 t284, .slice Ao18 t285.length co18, .slice Ao19 t288.length co19] 30 (0, 0)) (bp_ BK292.out) hb); replace HB := hs_ hb; (try clear hb); (try clear hb2); (try clear hk); (try clear hi); (try clear ho0); (try clear ho1)) | ((with_reducible refine gate_dst (N := 14) rfl ?_); (try (refine gate_guard (by rfl) ?_; dsimp only)); refine bx_ 14 #[.int .i64 0, .int .i64 0, .int .i64 0, .slice none 0 0, .slice none 0 0] 30 ?_; intro gb303 hg w22 hbox hb; have BK303 := Aside0.mk hbox; have GW303 := gs_ hg; have GE303 := gs_ hg; have NB279_303 := nl_ hg BK279.out; have NB303_279 := ng_ hg BK279.out; have NB292_303 := nl_ hg BK292.out; have NB303_292 := ng_ hg BK292.out; replace HO287 := rl_ HO287.out hb; replace HO290 := rl_ HO290.out hb; replace HO298 := rl_ HO298.out hb; replace HO301 := rl_ HO301.out hb; replace BK279 := bb_ BK279.out hb; replace BK292 := bb_ BK292.out hb; replace HB := hs_ hb; clear hb hbox hg; have hnb23 := NB303_279.out; have hnc23 := NB279_303.out; have hnb24 := NB303_292.out; have hnc24 := NB292_303.out; have hcz25_0 := bc0_ BK303.out; have hcz25_1 := bc1_ BK303.out; have hcz25_2 := bc2_ BK303.out; have hcz25_3 := bc3_ BK303.out; have hcz25_4 := bc4_ BK303.out; have hfz25_0 := blk_frozen BK303.out 0; have hfz25_1 := blk_frozen BK303.out 1; have hfz25_2 := blk_frozen BK303.out 2; have hfz25_3 := blk_frozen BK303.out 3; have hfz25_4 := blk_frozen BK303.out 4; obtain ⟨Ao26, co26, eo26⟩ := Kd.R_slice HO298.out; subst eo26; obtain ⟨Ao27, co27, eo27⟩ := Kd.R_slice HO301.out; subst eo27))
  repeat (go_quiet (first | ((with_reducible refine gate_dst (N := 4) rfl ?_); (try (refine gate_guard (by rfl) ?_; dsimp only)); refine bx_ 4 #[.slice A0_0 l0_0.length c0_0, .slice A0_1 l0_1.length c0_1] 25 ?_; intro gb279 hg w10 hbox hb; have BK279 := Aside0.mk hbox; have GW279 := gs_ hg; have GE279 := gs_ hg; replace HB := hs_ hb; clear hb hbox hg; have hcz11_0 := bc0_ BK279.out; have hcz11_1 := bc1_ BK279.out; have hfz11_0 := blk_frozen BK279.out 0; have hfz11_1 := blk_frozen BK279.out 1) | (go_at_call 9; (with_reducible refine (paymasterlaw14_small.calls _ _ l0_0 _ _ l0_1 true _ ?side1 ?side2 ?side3 ?side4 A5.out).mono ?_); (case side1 => exact kc_ (Kd.C_below HR0_0.out HB.out)); (case side2 => exact HC0_0.out); (case side3 => exact kc_ (Kd.C_below HR0_1.out HB.out)); (case side4 => exact HC0_1.out); rintro e w12 ⟨rfl, hb⟩; replace BK279 := bb_ BK279.out hb; replace HB := hs_ hb; (try clear hb); (try clear hb2); (try clear hk); (try clear hi); have hcz13_0 := bc0_ BK279.out; have hcz13_1 := bc1_ BK279.out; have hfz13_0 := blk_frozen BK279.out 0; have hfz13_1 := blk_frozen BK279.out 1) | (go_at_call 14; (with_reducible refine (withhold_Due.calls k _ _ l0_0 _ _ l0_1 (wrap64 (Int.tmod a1 281474976710656)) (wrap64 (Int.tmod a2 281474976710656)) t282 t283 t284 t285 t288 t291 _ ?side1 ?side2 ?side3 ?side4 A7.out).mono ?_); (case side1 => exact kc_ (Kd.C_below HR0_0.out HB.out)); (case side2 => exact HC0_0.out); (case side3 => exact kc_ (Kd.C_below HR0_1.out HB.out)); (case side4 => exact HC0_1.out); rintro e w14 ⟨v286, v289, rfl, ho0, ho1, hb⟩; have HO287 := Aside0.mk (Kd.R_lower ho0 (below_size bl_)); have HO290 := Aside0.mk (Kd.R_lower ho1 (below_size bl_)); replace BK279 := bb_ BK279.out hb; replace HB := hs_ hb; (try clear hb); (try clear hb2); (try clear hk); (try clear hi); (try clear ho0); (try clear ho1)) | ((with_reducible refine gate_dst (N := 12) rfl ?_); (try (refine gate_guard (by rfl) ?_; dsimp only)); refine bx_ 12 #[.int .i64 0, .int .i64 0, .int .i64 0, .slice none 0 0, .slice none 0 0] 30 ?_; intro gb292 hg w15 hbox hb; have BK292 := Aside0.mk hbox; have GW292 := gs_ hg; have GE292 := gs_ hg; have NB279_292 := nl_ hg BK279.out; have NB292_279 := ng_ hg BK279.out; replace HO287 := rl_ HO287.out hb; replace HO290 := rl_ HO290.out hb; replace BK279 := bb_ BK279.out hb; replace HB := hs_ hb; clear hb hbox hg; have hnb16 := NB292_279.out; have hnc16 := NB279_292.out; have hcz17_0 := bc0_ BK292.out; have hcz17_1 := bc1_ BK292.out; have hcz17_2 := bc2_ BK292.out; have hcz17_3 := bc3_ BK292.out; have hcz17_4 := bc4_ BK292.out; have hfz17_0 := blk_frozen BK292.out 0; have hfz17_1 := blk_frozen BK292.out 1; have hfz17_2 := blk_frozen BK292.out 2; have hfz17_3 := blk_frozen BK292.out 3; have hfz17_4 := blk_frozen BK292.out 4; obtain ⟨Ao18, co18, eo18⟩ := Kd.R_slice HO287.out; subst eo18; obtain ⟨Ao19, co19, eo19⟩ := Kd.R_slice HO290.out; subst eo19; have hcz20_0 := bc0_ BK279.out; have hcz20_1 := bc1_ BK279.out; have hfz20_0 := blk_frozen BK279.out 0; have hfz20_1 := blk_frozen BK279.out 1) | (go_at_call 14; (with_reducible refine (withhold_Due.calls k _ _ l0_0 _ _ l0_1 (wrap64 ((wrap64 (Int.tmod a1 281474976710656)) + (wrap64 (Int.tmod a3 281474976710656)))) (wrap64 ((wrap64 (Int.tmod a2 281474976710656)) + (wrap64 (Int.tmod a3 281474976710656)))) t293 t294 t295 t296 t299 t302 _ ?side1 ?side2 ?side3 ?side4 A8.out).mono ?_); (case side1 => exact Kd.C_below HR0_0.out bl_); (case side2 => exact HC0_0.out); (case side3 => exact Kd.C_below HR0_1.out bl_); (case side4 => exact HC0_1.out); rintro e w21 ⟨v297, v300, rfl, ho0, ho1, hb⟩; have HO298 := Aside0.mk (Kd.R_lower (Kd.R_new' (Kd.R_new' ho0 (Kd.R_lt (by refine kr_ ?_; exact (Kd.R_mono (rf5_ (Kd.R_types HO287.out BK292.out (by decide))) (fun _ h_ => h_.1))))) (Kd.R_lt (by refine kr_ ?_; exact (Kd.R_mono (rf5_ (Kd.R_types HO290.out BK292.out (by decide))) (fun _ h_ => h_.1))))) (below_size bl_)); have HO301 := Aside0.mk (Kd.R_lower (Kd.R_new' (Kd.R_new' ho1 (Kd.R_lt (by refine kr_ ?_; exact (Kd.R_mono (rf5_ (Kd.R_types HO287.out BK292.out (by decide))) (fun _ h_ => h_.1))))) (Kd.R_lt (by refine kr_ ?_; exact (Kd.R_mono (rf5_ (Kd.R_types HO290.out BK292.out (by decide))) (fun _ h_ => h_.1))))) (below_size bl_)); replace HO287 := Aside0.mk (Kd.R_mono (Kd.R_told (Kd.R_told (Kd.R_old (by refine kr_ ?_; exact (Kd.R_mono (rf5_ (Kd.R_types HO287.out BK292.out (by decide))) (fun _ h_ => h_.1))) hb) (Kd.R_base ho0)) (Kd.R_base ho1)) (fun _ h_ => h_.1)); replace HO290 := Aside0.mk (Kd.R_mono (Kd.R_told (Kd.R_told (Kd.R_old (by refine kr_ ?_; exact (Kd.R_mono (rf5_ (Kd.R_types HO290.out BK292.out (by decide))) (fun _ h_ => h_.1))) hb) (Kd.R_base ho0)) (Kd.R_base ho1)) (fun _ h_ => h_.1)); replace BK279 := bb_ BK279.out hb; replace BK292 := Aside0.mk (blk_below (g := gb292) (o := .cells #[.int .i64 t282, .int .i64 t283, .int .i64 t284, .slice Ao18 t285.length co18, .slice Ao19 t288.length co19] 30 (0, 0)) (bp_ BK292.out) hb); replace HB := hs_ hb; (try clear hb); (try clear hb2); (try clear hk); (try clear hi); (try clear ho0); (try clear ho1)) | ((with_reducible refine gate_dst (N := 14) rfl ?_); (try (refine gate_guard (by rfl) ?_; dsimp only)); refine bx_ 14 #[.int .i64 0, .int .i64 0, .int .i64 0, .slice none 0 0, .slice none 0 0] 30 ?_; intro gb303 hg w22 hbox hb; have BK303 := Aside0.mk hbox; have GW303 := gs_ hg; have GE303 := gs_ hg; have NB279_303 := nl_ hg BK279.out; have NB303_279 := ng_ hg BK279.out; have NB292_303 := nl_ hg BK292.out; have NB303_292 := ng_ hg BK292.out; replace HO287 := rl_ HO287.out hb; replace HO290 := rl_ HO290.out hb; replace HO298 := rl_ HO298.out hb; replace HO301 := rl_ HO301.out hb; replace BK279 := bb_ BK279.out hb; replace BK292 := bb_ BK292.out hb; replace HB := hs_ hb; clear hb hbox hg; have hnb23 := NB303_279.out; have hnc23 := NB279_303.out; have hnb24 := NB303_292.out; have hnc24 := NB292_303.out; have hcz25_0 := bc0_ BK303.out; have hcz25_1 := bc1_ BK303.out; have hcz25_2 := bc2_ BK303.out; have hcz25_3 := bc3_ BK303.out; have hcz25_4 := bc4_ BK303.out; have hfz25_0 := blk_frozen BK303.out 0; have hfz25_1 := blk_frozen BK303.out 1; have hfz25_2 := blk_frozen BK303.out 2; have hfz25_3 := blk_frozen BK303.out 3; have hfz25_4 := blk_frozen BK303.out 4; obtain ⟨Ao26, co26, eo26⟩ := Kd.R_slice HO298.out; subst eo26; obtain ⟨Ao27, co27, eo27⟩ := Kd.R_slice HO301.out; subst eo27)); go_upto_region 6 with (first | ((with_reducible refine gate_dst (N := 4) rfl ?_); (try (refine gate_guard (by rfl) ?_; dsimp only)); refine bx_ 4 #[.slice A0_0 l0_0.length c0_0, .slice A0_1 l0_1.length c0_1] 25 ?_; intro gb279 hg w10 hbox hb; have BK279 := Aside0.mk hbox; have GW279 := gs_ hg; have GE279 := gs_ hg; replace HB := hs_ hb; clear hb hbox hg; have hcz11_0 := bc0_ BK279.out; have hcz11_1 := bc1_ BK279.out; have hfz11_0 := blk_frozen BK279.out 0; have hfz11_1 := blk_frozen BK279.out 1) | (go_at_call 9; (with_reducible refine (paymasterlaw14_small.calls _ _ l0_0 _ _ l0_1 true _ ?side1 ?side2 ?side3 ?side4 A5.out).mono ?_); (case side1 => exact kc_ (Kd.C_below HR0_0.out HB.out)); (case side2 => exact HC0_0.out); (case side3 => exact kc_ (Kd.C_below HR0_1.out HB.out)); (case side4 => exact HC0_1.out); rintro e w12 ⟨rfl, hb⟩; replace BK279 := bb_ BK279.out hb; replace HB := hs_ hb; (try clear hb); (try clear hb2); (try clear hk); (try clear hi); have hcz13_0 := bc0_ BK279.out; have hcz13_1 := bc1_ BK279.out; have hfz13_0 := blk_frozen BK279.out 0; have hfz13_1 := blk_frozen BK279.out 1) | (go_at_call 14; (with_reducible refine (withhold_Due.calls k _ _ l0_0 _ _ l0_1 (wrap64 (Int.tmod a1 281474976710656)) (wrap64 (Int.tmod a2 281474976710656)) t282 t283 t284 t285 t288 t291 _ ?side1 ?side2 ?side3 ?side4 A7.out).mono ?_); (case side1 => exact kc_ (Kd.C_below HR0_0.out HB.out)); (case side2 => exact HC0_0.out); (case side3 => exact kc_ (Kd.C_below HR0_1.out HB.out)); (case side4 => exact HC0_1.out); rintro e w14 ⟨v286, v289, rfl, ho0, ho1, hb⟩; have HO287 := Aside0.mk (Kd.R_lower ho0 (below_size bl_)); have HO290 := Aside0.mk (Kd.R_lower ho1 (below_size bl_)); replace BK279 := bb_ BK279.out hb; replace HB := hs_ hb; (try clear hb); (try clear hb2); (try clear hk); (try clear hi); (try clear ho0); (try clear ho1)) | ((with_reducible refine gate_dst (N := 12) rfl ?_); (try (refine gate_guard (by rfl) ?_; dsimp only)); refine bx_ 12 #[.int .i64 0, .int .i64 0, .int .i64 0, .slice none 0 0, .slice none 0 0] 30 ?_; intro gb292 hg w15 hbox hb; have BK292 := Aside0.mk hbox; have GW292 := gs_ hg; have GE292 := gs_ hg; have NB279_292 := nl_ hg BK279.out; have NB292_279 := ng_ hg BK279.out; replace HO287 := rl_ HO287.out hb; replace HO290 := rl_ HO290.out hb; replace BK279 := bb_ BK279.out hb; replace HB := hs_ hb; clear hb hbox hg; have hnb16 := NB292_279.out; have hnc16 := NB279_292.out; have hcz17_0 := bc0_ BK292.out; have hcz17_1 := bc1_ BK292.out; have hcz17_2 := bc2_ BK292.out; have hcz17_3 := bc3_ BK292.out; have hcz17_4 := bc4_ BK292.out; have hfz17_0 := blk_frozen BK292.out 0; have hfz17_1 := blk_frozen BK292.out 1; have hfz17_2 := blk_frozen BK292.out 2; have hfz17_3 := blk_frozen BK292.out 3; have hfz17_4 := blk_frozen BK292.out 4; obtain ⟨Ao18, co18, eo18⟩ := Kd.R_slice HO287.out; subst eo18; obtain ⟨Ao19, co19, eo19⟩ := Kd.R_slice HO290.out; subst eo19; have hcz20_0 := bc0_ BK279.out; have hcz20_1 := bc1_ BK279.out; have hfz20_0 := blk_frozen BK279.out 0; have hfz20_1 := blk_frozen BK279.out 1) | (go_at_call 14; (with_reducible refine (withhold_Due.calls k _ _ l0_0 _ _ l0_1 (wrap64 ((wrap64 (Int.tmod a1 281474976710656)) + (wrap64 (Int.tmod a3 281474976710656)))) (wrap64 ((wrap64 (Int.tmod a2 281474976710656)) + (wrap64 (Int.tmod a3 281474976710656)))) t293 t294 t295 t296 t299 t302 _ ?side1 ?side2 ?side3 ?side4 A8.out).mono ?_); (case side1 => exact Kd.C_below HR0_0.out bl_); (case side2 => exact HC0_0.out); (case side3 => exact Kd.C_below HR0_1.out bl_); (case side4 => exact HC0_1.out); rintro e w21 ⟨v297, v300, rfl, ho0, ho1, hb⟩; have HO298 := Aside0.mk (Kd.R_lower (Kd.R_new' (Kd.R_new' ho0 (Kd.R_lt (by refine kr_ ?_; exact (Kd.R_mono (rf5_ (Kd.R_types HO287.out BK292.out (by decide))) (fun _ h_ => h_.1))))) (Kd.R_lt (by refine kr_ ?_; exact (Kd.R_mono (rf5_ (Kd.R_types HO290.out BK292.out (by decide))) (fun _ h_ => h_.1))))) (below_size bl_)); have HO301 := Aside0.mk (Kd.R_lower (Kd.R_new' (Kd.R_new' ho1 (Kd.R_lt (by refine kr_ ?_; exact (Kd.R_mono (rf5_ (Kd.R_types HO287.out BK292.out (by decide))) (fun _ h_ => h_.1))))) (Kd.R_lt (by refine kr_ ?_; exact (Kd.R_mono (rf5_ (Kd.R_types HO290.out BK292.out (by decide))) (fun _ h_ => h_.1))))) (below_size bl_)); replace HO287 := Aside0.mk (Kd.R_mono (Kd.R_told (Kd.R_told (Kd.R_old (by refine kr_ ?_; exact (Kd.R_mono (rf5_ (Kd.R_types HO287.out BK292.out (by decide))) (fun _ h_ => h_.1))) hb) (Kd.R_base ho0)) (Kd.R_base ho1)) (fun _ h_ => h_.1)); replace HO290 := Aside0.mk (Kd.R_mono (Kd.R_told (Kd.R_told (Kd.R_old (by refine kr_ ?_; exact (Kd.R_mono (rf5_ (Kd.R_types HO290.out BK292.out (by decide))) (fun _ h_ => h_.1))) hb) (Kd.R_base ho0)) (Kd.R_base ho1)) (fun _ h_ => h_.1)); replace BK279 := bb_ BK279.out hb; replace BK292 := Aside0.mk (blk_below (g := gb292) (o := .cells #[.int .i64 t282, .int .i64 t283, .int .i64 t284, .slice Ao18 t285.length co18, .slice Ao19 t288.length co19] 30 (0, 0)) (bp_ BK292.out) hb); replace HB := hs_ hb; (try clear hb); (try clear hb2); (try clear hk); (try clear hi); (try clear ho0); (try clear ho1)) | ((with_reducible refine gate_dst (N := 14) rfl ?_); (try (refine gate_guard (by rfl) ?_; dsimp only)); refine bx_ 14 #[.int .i64 0, .int .i64 0, .int .i64 0, .slice none 0 0, .slice none 0 0] 30 ?_; intro gb303 hg w22 hbox hb; have BK303 := Aside0.mk hbox; have GW303 := gs_ hg; have GE303 := gs_ hg; have NB279_303 := nl_ hg BK279.out; have NB303_279 := ng_ hg BK279.out; have NB292_303 := nl_ hg BK292.out; have NB303_292 := ng_ hg BK292.out; replace HO287 := rl_ HO287.out hb; replace HO290 := rl_ HO290.out hb; replace HO298 := rl_ HO298.out hb; replace HO301 := rl_ HO301.out hb; replace BK279 := bb_ BK279.out hb; replace BK292 := bb_ BK292.out hb; replace HB := hs_ hb; clear hb hbox hg; have hnb23 := NB303_279.out; have hnc23 := NB279_303.out; have hnb24 := NB303_292.out; have hnc24 := NB292_303.out; have hcz25_0 := bc0_ BK303.out; have hcz25_1 := bc1_ BK303.out; have hcz25_2 := bc2_ BK303.out; have hcz25_3 := bc3_ BK303.out; have hcz25_4 := bc4_ BK303.out; have hfz25_0 := blk_frozen BK303.out 0; have hfz25_1 := blk_frozen BK303.out 1; have hfz25_2 := blk_frozen BK303.out 2; have hfz25_3 := blk_frozen BK303.out 3; have hfz25_4 := blk_frozen BK303.out 4; obtain ⟨Ao26, co26, eo26⟩ := Kd.R_slice HO298.out; subst eo26; obtain ⟨Ao27, co27, eo27⟩ := Kd.R_slice HO301.out; subst eo27)))
  (try simp only [Act.put, List.setIfInBounds_toArray, List.set_cons_zero, List.set_cons_succ])
  go_cut [53] (fun v53 wc => ∃ (kq : Nat) (x53_8 : Bool), v53 = .bool x53_8 ∧ Aside0 (paymasterlaw14_WithholdMore.j0 kq (wrap64 (Int.tmod a1 281474976710656)) (wrap64 (Int.tmod a2 281474976710656)) t291 t302 x53_8 l0_0 l0_1 t282 t283 t284 t285 t288 t293 t294 t295 t296 t299 = some r) ∧ Aside0 (kq ≤ k) ∧ Aside0 (Kd.R (Kd.int .i64) 3 wc w.heap.size (fun k_ => some k_ ≠ ((.slice Ao19 t288.length co19) : Value).ownBlock ∧ some k_ ≠ ((.slice Ao26 t296.length co26) : Value).ownBlock ∧ some k_ ≠ ((.slice Ao27 t299.length co27) : Value).ownBlock) (.slice Ao18 t285.length co18) t285) ∧ Aside0 (Kd.R (Kd.int .i64) 3 wc w.heap.size (fun k_ => some k_ ≠ ((.slice Ao18 t285.length co18) : Value).ownBlock ∧ some k_ ≠ ((.slice Ao26 t296.length co26) : Value).ownBlock ∧ some k_ ≠ ((.slice Ao27 t299.length co27) : Value).ownBlock) (.slice Ao19 t288.length co19) t288) ∧ Aside0 (Kd.R (Kd.int .i64) 3 wc w.heap.size (fun k_ => some k_ ≠ ((.slice Ao18 t285.length co18) : Value).ownBlock ∧ some k_ ≠ ((.slice Ao19 t288.length co19) : Value).ownBlock ∧ some k_ ≠ ((.slice Ao27 t299.length co27) : Value).ownBlock) (.slice Ao26 t296.length co26) t296) ∧ Aside0 (Kd.R (Kd.int .i64) 3 wc w.heap.size (fun k_ => some k_ ≠ ((.slice Ao18 t285.length co18) : Value).ownBlock ∧ some k_ ≠ ((.slice Ao19 t288.length co19) : Value).ownBlock ∧ some k_ ≠ ((.slice Ao26 t296.length co26) : Value).ownBlock) (.slice Ao27 t299.length co27) t299) ∧ Aside0 (wc.heap[gb279]? = some (.cells #[(.slice A0_0 l0_0.length c0_0), (.slice A0_1 l0_1.length c0_1)] 25 (0, 0))) ∧ Aside0 (wc.heap[gb292]? = some (.cells #[.int .i64 t282, .int .i64 t283, .int .i64 t284, (.slice Ao18 t285.length co18), (.slice Ao19 t288.length co19)] 30 (0, 0))) ∧ Aside0 (wc.heap[gb303]? = some (.cells #[.int .i64 t293, .int .i64 t294, .int .i64 t295, (.slice Ao26 t296.length co26), (.slice Ao27 t299.length co27)] 30 (0, 0))) ∧ Aside0 (Below w.heap.size w wc))
  case first =>
   have H := HC9.out
   clear HC9
   by_cases c28 : t291 = 0
   ·rw [if_pos c28] at H
    have c28b0 : (t291 == 0) = true := beq_iff_eq.mpr c28
    have c28b1 : (t291 != 0) = false := bne_eq_false_iff_eq.mpr c28
    clear c28
    (first | rw [c28b0] | (simp only [i64_w, i32_w]; rw [c28b0]) | skip)
    have H' := Aside0.mk H
    clear H
    go_wp2
    repeat (go_quiet (fail); try go_wp2)
    go_meet
    case rel => exact ⟨_, ((t302 != 0)), sm_, H', ⟨by first | omega | exact Nat.le_refl _⟩, ⟨by refine kr_ ?_; exact Kd.R_mono (rf5_ (Kd.R_types HO287.out BK303.out (by decide))) (fun _ hk => ⟨hk.1.1.1, ⟨hk.1.1.2, hk.1.2⟩⟩)⟩, ⟨by refine kr_ ?_; exact Kd.R_mono (rf5_ (Kd.R_types HO290.out BK303.out (by decide))) (fun _ hk => ⟨hk.1.1.1, ⟨hk.1.1.2, hk.1.2⟩⟩)⟩, ⟨by refine kr_ ?_; exact Kd.R_mono (rf5_ (Kd.R_types HO298.out BK303.out (by decide))) (fun _ hk => ⟨hk.1.1.2, ⟨hk.1.2, hk.1.1.1⟩⟩)⟩, ⟨by refine kr_ ?_; exact Kd.R_mono (rf5_ (Kd.R_types HO301.out BK303.out (by decide))) (fun _ hk => ⟨hk.1.1.2, ⟨hk.1.2, hk.1.1.1⟩⟩)⟩, ⟨bf_ BK279.out⟩, ⟨bf_ BK292.out⟩, ⟨bp_ BK303.out⟩, ⟨bl_⟩⟩
   ·rw [if_neg c28] at H
    have c28b0 : (t291 == 0) = false := beq_eq_false_iff_ne.mpr c28
    have c28b1 : (t291 != 0) = true := bne_iff_ne.mpr c28
    (first | rw [c28b0] | (simp only [i64_w, i32_w]; rw [c28b0]) | skip)
    have H' := Aside0.mk H
    clear H
    go_wp2
    repeat (go_quiet (fail); try go_wp2)
    go_meet
    case rel => exact ⟨_, (true), sm_, H', ⟨by first | omega | exact Nat.le_refl _⟩, ⟨by refine kr_ ?_; exact Kd.R_mono (rf5_ (Kd.R_types HO287.out BK303.out (by decide))) (fun _ hk => ⟨hk.1.1.1, ⟨hk.1.1.2, hk.1.2⟩⟩)⟩, ⟨by refine kr_ ?_; exact Kd.R_mono (rf5_ (Kd.R_types HO290.out BK303.out (by decide))) (fun _ hk => ⟨hk.1.1.1, ⟨hk.1.1.2, hk.1.2⟩⟩)⟩, ⟨by refine kr_ ?_; exact Kd.R_mono (rf5_ (Kd.R_types HO298.out BK303.out (by decide))) (fun _ hk => ⟨hk.1.1.2, ⟨hk.1.2, hk.1.1.1⟩⟩)⟩, ⟨by refine kr_ ?_; exact Kd.R_mono (rf5_ (Kd.R_types HO301.out BK303.out (by decide))) (fun _ hk => ⟨hk.1.1.2, ⟨hk.1.2, hk.1.1.1⟩⟩)⟩, ⟨bf_ BK279.out⟩, ⟨bf_ BK292.out⟩, ⟨bp_ BK303.out⟩, ⟨bl_⟩⟩
  case rest =>
   clear HC9
   try clear c1
   try clear c2
   try clear p2
   try clear c4
   try clear c6
   try clear p6
   try clear c16
   try clear c23
   try clear c24
   try clear c28
   try clear c28b0
   try clear c28b1
   try clear hcz11_0
   try clear hcz11_1
   try clear hcz13_0
   try clear hcz13_1
   try clear hcz17_0
   try clear hcz17_1
   try clear hcz17_2
   try clear hcz17_3
   try clear hcz17_4
   try clear hcz20_0
   try clear hcz20_1
   try clear hcz25_0
   try clear hcz25_1
   try clear hcz25_2
   try clear hcz25_3
   try clear hcz25_4
   try clear hfz11_0
   try clear hfz11_1
   try clear hfz13_0
   try clear hfz13_1
   try clear hfz17_0
   try clear hfz17_1
   try clear hfz17_2
   try clear hfz17_3
   try clear hfz17_4
   try clear hfz20_0
   try clear hfz20_1
   try clear hfz25_0
   try clear hfz25_1
   try clear hfz25_2
   try clear hfz25_3
   try clear hfz25_4
   obtain ⟨kq, x53_8, rfl, HA, HJ8, HO_293003, HO_293004, HO_304003, HO_304004, BK279, BK292, BK303, HB⟩ := hcut
   cases kq with
   | zero => exact absurd HA.out (by simp [paymasterlaw14_WithholdMore.j0])
   | succ kj8 =>
    have H := HA.out
    clear HA
    simp only [paymasterlaw14_WithholdMore.j0] at H
    by_cases c29 : x53_8 = true
    ·subst c29
     rw [if_pos rfl] at H
     by_cases c30 : t291 = t302
     ·rw [if_pos c30] at H
      have c30b0 : (t291 == t302) = true := beq_iff_eq.mpr c30
      have c30b1 : (t291 != t302) = false := bne_eq_false_iff_eq.mpr c30
      clear c30
      replace H := Option.bind_eq_some_iff.mp H
      obtain ⟨t304, A310, H⟩ := H
      (try dsimp only at H)
      have A31 := Aside0.mk A310
      clear A310
      obtain rfl := Option.some.inj H
      go_wp2_with (first | (go_at_call 10; (with_reducible refine (paymasterlaw14_awake.calls kj8  t304 _ A31.out).mono ?_); rintro e w32 ⟨rfl, hb⟩; replace HO_293003 := rl_ HO_293003.out hb; replace HO_293004 := rl_ HO_293004.out hb; replace HO_304003 := rl_ HO_304003.out hb; replace HO_304004 := rl_ HO_304004.out hb; replace BK279 := bb_ BK279.out hb; replace BK292 := bb_ BK292.out hb; replace BK303 := bb_ BK303.out hb; replace HB := hs_ hb; (try clear hb); (try clear hb2); (try clear hk); (try clear hi)))
      repeat (go_quiet (first | (go_at_call 10; (with_reducible refine (paymasterlaw14_awake.calls kj8  t304 _ A31.out).mono ?_); rintro e w32 ⟨rfl, hb⟩; replace HO_293003 := rl_ HO_293003.out hb; replace HO_293004 := rl_ HO_293004.out hb; replace HO_304003 := rl_ HO_304003.out hb; replace HO_304004 := rl_ HO_304004.out hb; replace BK279 := bb_ BK279.out hb; replace BK292 := bb_ BK292.out hb; replace BK303 := bb_ BK303.out hb; replace HB := hs_ hb; (try clear hb); (try clear hb2); (try clear hk); (try clear hi))); try go_wp2_with (first | (go_at_call 10; (with_reducible refine (paymasterlaw14_awake.calls kj8  t304 _ A31.out).mono ?_); rintro e w32 ⟨rfl, hb⟩; replace HO_293003 := rl_ HO_293003.out hb; replace HO_293004 := rl_ HO_293004.out hb; replace HO_304003 := rl_ HO_304003.out hb; replace HO_304004 := rl_ HO_304004.out hb; replace BK279 := bb_ BK279.out hb; replace BK292 := bb_ BK292.out hb; replace BK303 := bb_ BK303.out hb; replace HB := hs_ hb; (try clear hb); (try clear hb2); (try clear hk); (try clear hi))))
      go_ret
      exact ⟨se_, bl_⟩
     ·rw [if_neg c30] at H
      exact absurd H (by simp)
    ·replace c29 := Bool.eq_false_iff.mpr c29
     subst c29
     rw [if_neg (show ¬ (false = true) by decide)] at H
     have HC33 := Aside0.mk H
     clear H
     go_upto_region 8 with (fail)
     repeat (go_quiet (fail); go_upto_region 8 with (fail))
     go_cut [111] (fun v111 wc => ∃ (kq : Nat) (x111_32 : Bool), v111 = .bool x111_32 ∧ Aside0 (paymasterlaw14_WithholdMore.j1 kq (wrap64 (Int.tmod a2 281474976710656)) x111_32 l0_0 l0_1 t282 t283 t284 t285 t288 t293 t294 t295 t296 t299 = some r) ∧ Aside0 (kq ≤ kj8) ∧ Aside0 (Kd.R (Kd.int .i64) 3 wc w.heap.size (fun k_ => some k_ ≠ ((.slice Ao19 t288.length co19) : Value).ownBlock ∧ some k_ ≠ ((.slice Ao26 t296.length co26) : Value).ownBlock ∧ some k_ ≠ ((.slice Ao27 t299.length co27) : Value).ownBlock) (.slice Ao18 t285.length co18) t285) ∧ Aside0 (Kd.R (Kd.int .i64) 3 wc w.heap.size (fun k_ => some k_ ≠ ((.slice Ao18 t285.length co18) : Value).ownBlock ∧ some k_ ≠ ((.slice Ao26 t296.length co26) : Value).ownBlock ∧ some k_ ≠ ((.slice Ao27 t299.length co27) : Value).ownBlock) (.slice Ao19 t288.length co19) t288) ∧ Aside0 (Kd.R (Kd.int .i64) 3 wc w.heap.size (fun k_ => some k_ ≠ ((.slice Ao18 t285.length co18) : Value).ownBlock ∧ some k_ ≠ ((.slice Ao19 t288.length co19) : Value).ownBlock ∧ some k_ ≠ ((.slice Ao27 t299.length co27) : Value).ownBlock) (.slice Ao26 t296.length co26) t296) ∧ Aside0 (Kd.R (Kd.int .i64) 3 wc w.heap.size (fun k_ => some k_ ≠ ((.slice Ao18 t285.length co18) : Value).ownBlock ∧ some k_ ≠ ((.slice Ao19 t288.length co19) : Value).ownBlock ∧ some k_ ≠ ((.slice Ao26 t296.length co26) : Value).ownBlock) (.slice Ao27 t299.length co27) t299) ∧ Aside0 (wc.heap[gb279]? = some (.cells #[(.slice A0_0 l0_0.length c0_0), (.slice A0_1 l0_1.length c0_1)] 25 (0, 0))) ∧ Aside0 (wc.heap[gb292]? = some (.cells #[.int .i64 t282, .int .i64 t283, .int .i64 t284, (.slice Ao18 t285.length co18), (.slice Ao19 t288.length co19)] 30 (0, 0))) ∧ Aside0 (wc.heap[gb303]? = some (.cells #[.int .i64 t293, .int .i64 t294, .int .i64 t295, (.slice Ao26 t296.length co26), (.slice Ao27 t299.length co27)] 30 (0, 0))) ∧ Aside0 (Below w.heap.size w wc))
     case first =>
      have H := HC33.out
      clear HC33
      by_cases c34 : t284 < 0
      ·rw [if_pos c34] at H
       have c34b0 : decide (t284 < 0) = true := decide_eq_true c34
       clear c34
       (first | rw [c34b0] | (simp only [i64_w, i32_w]; rw [c34b0]) | skip)
       have H' := Aside0.mk H
       clear H
       have hnb35 := NB292_279.out
       have hnc35 := NB279_292.out
       have hnb36 := NB292_303.out
       have hnc36 := NB303_292.out
       have hcz37_0 := bc0_ BK292.out
       have hcz37_1 := bc1_ BK292.out
       have hcz37_2 := bc2_ BK292.out
       have hcz37_3 := bc3_ BK292.out
       have hcz37_4 := bc4_ BK292.out
       have hfz37_0 := blk_frozen BK292.out 0
       have hfz37_1 := blk_frozen BK292.out 1
       have hfz37_2 := blk_frozen BK292.out 2
       have hfz37_3 := blk_frozen BK292.out 3
       have hfz37_4 := blk_frozen BK292.out 4
       go_wp2
       repeat (go_quiet (fail); try go_wp2)
       go_meet
       case rel => exact ⟨_, (true), sm_, H', ⟨by have := HJ8.out; first | omega | exact Nat.le_refl _⟩, ⟨by refine kr_ ?_; exact HO_293003.out⟩, ⟨by refine kr_ ?_; exact HO_293004.out⟩, ⟨by refine kr_ ?_; exact HO_304003.out⟩, ⟨by refine kr_ ?_; exact HO_304004.out⟩, ⟨bq_ BK279.out⟩, ⟨bq_ BK292.out⟩, ⟨bq_ BK303.out⟩, ⟨bl_⟩⟩
      ·rw [if_neg c34] at H
       have c34b0 : decide (t284 < 0) = false := decide_eq_false c34
       clear c34
       (first | rw [c34b0] | (simp only [i64_w, i32_w]; rw [c34b0]) | skip)
       by_cases c38 : t284 > (wrap64 (Int.tmod a1 281474976710656))
       ·rw [if_pos c38] at H
        have c38b0 : decide ((wrap64 (Int.tmod a1 281474976710656)) < t284) = true := decide_eq_true c38
        clear c38
        have H' := Aside0.mk H
        clear H
        have hnb39 := NB292_279.out
        have hnc39 := NB279_292.out
        have hnb40 := NB292_303.out
        have hnc40 := NB303_292.out
        have hcz41_0 := bc0_ BK292.out
        have hcz41_1 := bc1_ BK292.out
        have hcz41_2 := bc2_ BK292.out
        have hcz41_3 := bc3_ BK292.out
        have hcz41_4 := bc4_ BK292.out
        have hfz41_0 := blk_frozen BK292.out 0
        have hfz41_1 := blk_frozen BK292.out 1
        have hfz41_2 := blk_frozen BK292.out 2
        have hfz41_3 := blk_frozen BK292.out 3
        have hfz41_4 := blk_frozen BK292.out 4
        go_wp2
        repeat (go_quiet (fail); try go_wp2)
        go_meet
        case rel => exact ⟨_, (true), sm_, H', ⟨by have := HJ8.out; first | omega | exact Nat.le_refl _⟩, ⟨by refine kr_ ?_; exact HO_293003.out⟩, ⟨by refine kr_ ?_; exact HO_293004.out⟩, ⟨by refine kr_ ?_; exact HO_304003.out⟩, ⟨by refine kr_ ?_; exact HO_304004.out⟩, ⟨bq_ BK279.out⟩, ⟨bq_ BK292.out⟩, ⟨bq_ BK303.out⟩, ⟨bl_⟩⟩
       ·rw [if_neg c38] at H
        have c38b0 : decide ((wrap64 (Int.tmod a1 281474976710656)) < t284) = false := decide_eq_false c38
        clear c38
        by_cases c42 : t295 < t284
        ·rw [if_pos c42] at H
         have c42b0 : decide (t295 < t284) = true := decide_eq_true c42
         clear c42
         have H' := Aside0.mk H
         clear H
         have hnb43 := NB292_279.out
         have hnc43 := NB279_292.out
         have hnb44 := NB292_303.out
         have hnc44 := NB303_292.out
         have hcz45_0 := bc0_ BK292.out
         have hcz45_1 := bc1_ BK292.out
         have hcz45_2 := bc2_ BK292.out
         have hcz45_3 := bc3_ BK292.out
         have hcz45_4 := bc4_ BK292.out
         have hfz45_0 := blk_frozen BK292.out 0
         have hfz45_1 := blk_frozen BK292.out 1
         have hfz45_2 := blk_frozen BK292.out 2
         have hfz45_3 := blk_frozen BK292.out 3
         have hfz45_4 := blk_frozen BK292.out 4
         have hnb46 := NB303_279.out
         have hnc46 := NB279_303.out
         have hcz47_0 := bc0_ BK303.out
         have hcz47_1 := bc1_ BK303.out
         have hcz47_2 := bc2_ BK303.out
         have hcz47_3 := bc3_ BK303.out
         have hcz47_4 := bc4_ BK303.out
         have hfz47_0 := blk_frozen BK303.out 0
         have hfz47_1 := blk_frozen BK303.out 1
         have hfz47_2 := blk_frozen BK303.out 2
         have hfz47_3 := blk_frozen BK303.out 3
         have hfz47_4 := blk_frozen BK303.out 4
         go_wp2
         repeat (go_quiet (fail); try go_wp2)
         go_meet
         case rel => exact ⟨_, (true), sm_, H', ⟨by have := HJ8.out; first | omega | exact Nat.le_refl _⟩, ⟨by refine kr_ ?_; exact HO_293003.out⟩, ⟨by refine kr_ ?_; exact HO_293004.out⟩, ⟨by refine kr_ ?_; exact HO_304003.out⟩, ⟨by refine kr_ ?_; exact HO_304004.out⟩, ⟨bq_ BK279.out⟩, ⟨bq_ BK292.out⟩, ⟨bq_ BK303.out⟩, ⟨bl_⟩⟩
        ·rw [if_neg c42] at H
         have c42b0 : decide (t295 < t284) = false := decide_eq_false c42
         clear c42
         by_cases c48 : (t285.length : Int) = (l0_1.length : Int)
         ·rw [if_pos c48] at H
          have c48b0 : ((t285.length : Int) == (l0_1.length : Int)) = true := beq_iff_eq.mpr c48
          have c48b1 : ((t285.length : Int) != (l0_1.length : Int)) = false := bne_eq_false_iff_eq.mpr c48
          have c48b2 : (t285.length == l0_1.length) = true := by first | simpa using c48 | (simp at c48 ⊢; omega)
          clear c48
          by_cases c49 : (t296.length : Int) = (l0_1.length : Int)
          ·rw [if_pos c49] at H
           have c49b0 : ((t296.length : Int) == (l0_1.length : Int)) = true := beq_iff_eq.mpr c49
           have c49b1 : ((t296.length : Int) != (l0_1.length : Int)) = false := bne_eq_false_iff_eq.mpr c49
           have c49b2 : (t296.length == l0_1.length) = true := by first | simpa using c49 | (simp at c49 ⊢; omega)
           clear c49
           by_cases c50 : (t288.length : Int) = (l0_1.length : Int)
           ·rw [if_pos c50] at H
            have c50b0 : ((t288.length : Int) == (l0_1.length : Int)) = true := beq_iff_eq.mpr c50
            have c50b1 : ((t288.length : Int) != (l0_1.length : Int)) = false := bne_eq_false_iff_eq.mpr c50
            have c50b2 : (t288.length == l0_1.length) = true := by first | simpa using c50 | (simp at c50 ⊢; omega)
            clear c50
            have H' := Aside0.mk H
            clear H
            have hnb51 := NB292_279.out
            have hnc51 := NB279_292.out
            have hnb52 := NB292_303.out
            have hnc52 := NB303_292.out
            have hcz53_0 := bc0_ BK292.out
            have hcz53_1 := bc1_ BK292.out
            have hcz53_2 := bc2_ BK292.out
            have hcz53_3 := bc3_ BK292.out
            have hcz53_4 := bc4_ BK292.out
            have hfz53_0 := blk_frozen BK292.out 0
            have hfz53_1 := blk_frozen BK292.out 1
            have hfz53_2 := blk_frozen BK292.out 2
            have hfz53_3 := blk_frozen BK292.out 3
            have hfz53_4 := blk_frozen BK292.out 4
            have hnb54 := NB303_279.out
            have hnc54 := NB279_303.out
            have hcz55_0 := bc0_ BK303.out
            have hcz55_1 := bc1_ BK303.out
            have hcz55_2 := bc2_ BK303.out
            have hcz55_3 := bc3_ BK303.out
            have hcz55_4 := bc4_ BK303.out
            have hfz55_0 := blk_frozen BK303.out 0
            have hfz55_1 := blk_frozen BK303.out 1
            have hfz55_2 := blk_frozen BK303.out 2
            have hfz55_3 := blk_frozen BK303.out 3
            have hfz55_4 := blk_frozen BK303.out 4
            have hcz56_0 := bc0_ BK279.out
            have hcz56_1 := bc1_ BK279.out
            have hfz56_0 := blk_frozen BK279.out 0
            have hfz56_1 := blk_frozen BK279.out 1
            go_wp2
            repeat (go_quiet (fail); try go_wp2)
            go_meet
            case rel => exact ⟨_, (((t299.length : Int) != (l0_1.length : Int))), sm_, H', ⟨by have := HJ8.out; first | omega | exact Nat.le_refl _⟩, ⟨by refine kr_ ?_; exact HO_293003.out⟩, ⟨by refine kr_ ?_; exact HO_293004.out⟩, ⟨by refine kr_ ?_; exact HO_304003.out⟩, ⟨by refine kr_ ?_; exact HO_304004.out⟩, ⟨bq_ BK279.out⟩, ⟨bq_ BK292.out⟩, ⟨bq_ BK303.out⟩, ⟨bl_⟩⟩
           ·rw [if_neg c50] at H
            have c50b0 : ((t288.length : Int) == (l0_1.length : Int)) = false := beq_eq_false_iff_ne.mpr c50
            have c50b1 : ((t288.length : Int) != (l0_1.length : Int)) = true := bne_iff_ne.mpr c50
            have c50b2 : (t288.length == l0_1.length) = false := by first | simpa using c50 | (simp at c50 ⊢; omega)
            have H' := Aside0.mk H
            clear H
            have hnb57 := NB292_279.out
            have hnc57 := NB279_292.out
            have hnb58 := NB292_303.out
            have hnc58 := NB303_292.out
            have hcz59_0 := bc0_ BK292.out
            have hcz59_1 := bc1_ BK292.out
            have hcz59_2 := bc2_ BK292.out
            have hcz59_3 := bc3_ BK292.out
            have hcz59_4 := bc4_ BK292.out
            have hfz59_0 := blk_frozen BK292.out 0
            have hfz59_1 := blk_frozen BK292.out 1
            have hfz59_2 := blk_frozen BK292.out 2
            have hfz59_3 := blk_frozen BK292.out 3
            have hfz59_4 := blk_frozen BK292.out 4
            have hnb60 := NB303_279.out
            have hnc60 := NB279_303.out
            have hcz61_0 := bc0_ BK303.out
            have hcz61_1 := bc1_ BK303.out
            have hcz61_2 := bc2_ BK303.out
            have hcz61_3 := bc3_ BK303.out
            have hcz61_4 := bc4_ BK303.out
            have hfz61_0 := blk_frozen BK303.out 0
            have hfz61_1 := blk_frozen BK303.out 1
            have hfz61_2 := blk_frozen BK303.out 2
            have hfz61_3 := blk_frozen BK303.out 3
            have hfz61_4 := blk_frozen BK303.out 4
            have hcz62_0 := bc0_ BK279.out
            have hcz62_1 := bc1_ BK279.out
            have hfz62_0 := blk_frozen BK279.out 0
            have hfz62_1 := blk_frozen BK279.out 1
            go_wp2
            repeat (go_quiet (fail); try go_wp2)
            go_meet
            case rel => exact ⟨_, (true), sm_, H', ⟨by have := HJ8.out; first | omega | exact Nat.le_refl _⟩, ⟨by refine kr_ ?_; exact HO_293003.out⟩, ⟨by refine kr_ ?_; exact HO_293004.out⟩, ⟨by refine kr_ ?_; exact HO_304003.out⟩, ⟨by refine kr_ ?_; exact HO_304004.out⟩, ⟨bq_ BK279.out⟩, ⟨bq_ BK292.out⟩, ⟨bq_ BK303.out⟩, ⟨bl_⟩⟩
          ·rw [if_neg c49] at H
           have c49b0 : ((t296.length : Int) == (l0_1.length : Int)) = false := beq_eq_false_iff_ne.mpr c49
           have c49b1 : ((t296.length : Int) != (l0_1.length : Int)) = true := bne_iff_ne.mpr c49
           have c49b2 : (t296.length == l0_1.length) = false := by first | simpa using c49 | (simp at c49 ⊢; omega)
           have H' := Aside0.mk H
           clear H
           have hnb63 := NB292_279.out
           have hnc63 := NB279_292.out
           have hnb64 := NB292_303.out
           have hnc64 := NB303_292.out
           have hcz65_0 := bc0_ BK292.out
           have hcz65_1 := bc1_ BK292.out
           have hcz65_2 := bc2_ BK292.out
           have hcz65_3 := bc3_ BK292.out
           have hcz65_4 := bc4_ BK292.out
           have hfz65_0 := blk_frozen BK292.out 0
           have hfz65_1 := blk_frozen BK292.out 1
           have hfz65_2 := blk_frozen BK292.out 2
           have hfz65_3 := blk_frozen BK292.out 3
           have hfz65_4 := blk_frozen BK292.out 4
           have hnb66 := NB303_279.out
           have hnc66 := NB279_303.out
           have hcz67_0 := bc0_ BK303.out
           have hcz67_1 := bc1_ BK303.out
           have hcz67_2 := bc2_ BK303.out
           have hcz67_3 := bc3_ BK303.out
           have hcz67_4 := bc4_ BK303.out
           have hfz67_0 := blk_frozen BK303.out 0
           have hfz67_1 := blk_frozen BK303.out 1
           have hfz67_2 := blk_frozen BK303.out 2
           have hfz67_3 := blk_frozen BK303.out 3
           have hfz67_4 := blk_frozen BK303.out 4
           have hcz68_0 := bc0_ BK279.out
           have hcz68_1 := bc1_ BK279.out
           have hfz68_0 := blk_frozen BK279.out 0
           have hfz68_1 := blk_frozen BK279.out 1
           go_wp2
           repeat (go_quiet (fail); try go_wp2)
           go_meet
           case rel => exact ⟨_, (true), sm_, H', ⟨by have := HJ8.out; first | omega | exact Nat.le_refl _⟩, ⟨by refine kr_ ?_; exact HO_293003.out⟩, ⟨by refine kr_ ?_; exact HO_293004.out⟩, ⟨by refine kr_ ?_; exact HO_304003.out⟩, ⟨by refine kr_ ?_; exact HO_304004.out⟩, ⟨bq_ BK279.out⟩, ⟨bq_ BK292.out⟩, ⟨bq_ BK303.out⟩, ⟨bl_⟩⟩
         ·rw [if_neg c48] at H
          have c48b0 : ((t285.length : Int) == (l0_1.length : Int)) = false := beq_eq_false_iff_ne.mpr c48
          have c48b1 : ((t285.length : Int) != (l0_1.length : Int)) = true := bne_iff_ne.mpr c48
          have c48b2 : (t285.length == l0_1.length) = false := by first | simpa using c48 | (simp at c48 ⊢; omega)
          have H' := Aside0.mk H
          clear H
          have hnb69 := NB292_279.out
          have hnc69 := NB279_292.out
          have hnb70 := NB292_303.out
          have hnc70 := NB303_292.out
          have hcz71_0 := bc0_ BK292.out
          have hcz71_1 := bc1_ BK292.out
          have hcz71_2 := bc2_ BK292.out
          have hcz71_3 := bc3_ BK292.out
          have hcz71_4 := bc4_ BK292.out
          have hfz71_0 := blk_frozen BK292.out 0
          have hfz71_1 := blk_frozen BK292.out 1
          have hfz71_2 := blk_frozen BK292.out 2
          have hfz71_3 := blk_frozen BK292.out 3
          have hfz71_4 := blk_frozen BK292.out 4
          have hnb72 := NB303_279.out
          have hnc72 := NB279_303.out
          have hcz73_0 := bc0_ BK303.out
          have hcz73_1 := bc1_ BK303.out
          have hcz73_2 := bc2_ BK303.out
          have hcz73_3 := bc3_ BK303.out
          have hcz73_4 := bc4_ BK303.out
          have hfz73_0 := blk_frozen BK303.out 0
          have hfz73_1 := blk_frozen BK303.out 1
          have hfz73_2 := blk_frozen BK303.out 2
          have hfz73_3 := blk_frozen BK303.out 3
          have hfz73_4 := blk_frozen BK303.out 4
          have hcz74_0 := bc0_ BK279.out
          have hcz74_1 := bc1_ BK279.out
          have hfz74_0 := blk_frozen BK279.out 0
          have hfz74_1 := blk_frozen BK279.out 1
          go_wp2
          repeat (go_quiet (fail); try go_wp2)
          go_meet
          case rel => exact ⟨_, (true), sm_, H', ⟨by have := HJ8.out; first | omega | exact Nat.le_refl _⟩, ⟨by refine kr_ ?_; exact HO_293003.out⟩, ⟨by refine kr_ ?_; exact HO_293004.out⟩, ⟨by refine kr_ ?_; exact HO_304003.out⟩, ⟨by refine kr_ ?_; exact HO_304004.out⟩, ⟨bq_ BK279.out⟩, ⟨bq_ BK292.out⟩, ⟨bq_ BK303.out⟩, ⟨bl_⟩⟩
     case rest =>
      clear HC33
      try clear c1
      try clear c2
      try clear p2
      try clear c3
      try clear c4
      try clear c5
      try clear c6
      try clear p6
      try clear c7
      try clear c16
      try clear c23
      try clear c24
      try clear c28
      try clear c28b0
      try clear c28b1
      try clear c29
      try clear c30
      try clear c30b0
      try clear c30b1
      try clear c34
      try clear c34b0
      try clear c35
      try clear c36
      try clear c38
      try clear c38b0
      try clear c39
      try clear c40
      try clear c42
      try clear c42b0
      try clear c43
      try clear c44
      try clear c46
      try clear c48
      try clear c48b0
      try clear c48b1
      try clear c48b2
      try clear c49
      try clear c49b0
      try clear c49b1
      try clear c49b2
      try clear c50
      try clear c50b0
      try clear c50b1
      try clear c50b2
      try clear c51
      try clear c52
      try clear c54
      try clear c57
      try clear c58
      try clear c60
      try clear c63
      try clear c64
      try clear p64
      try clear c66
      try clear c69
      try clear c70
      try clear c72
      try clear hcz11_0
      try clear hcz11_1
      try clear hcz13_0
      try clear hcz13_1
      try clear hcz17_0
      try clear hcz17_1
      try clear hcz17_2
      try clear hcz17_3
      try clear hcz17_4
      try clear hcz20_0
      try clear hcz20_1
      try clear hcz25_0
      try clear hcz25_1
      try clear hcz25_2
      try clear hcz25_3
      try clear hcz25_4
      try clear hcz37_0
      try clear hcz37_1
      try clear hcz37_2
      try clear hcz37_3
      try clear hcz37_4
      try clear hcz41_0
      try clear hcz41_1
      try clear hcz41_2
      try clear hcz41_3
      try clear hcz41_4
      try clear hcz45_0
      try clear hcz45_1
      try clear hcz45_2
      try clear hcz45_3
      try clear hcz45_4
      try clear hcz47_0
      try clear hcz47_1
      try clear hcz47_2
      try clear hcz47_3
      try clear hcz47_4
      try clear hcz53_0
      try clear hcz53_1
      try clear hcz53_2
      try clear hcz53_3
      try clear hcz53_4
      try clear hcz55_0
      try clear hcz55_1
      try clear hcz55_2
      try clear hcz55_3
      try clear hcz55_4
      try clear hcz56_0
      try clear hcz56_1
      try clear hcz59_0
      try clear hcz59_1
      try clear hcz59_2
      try clear hcz59_3
      try clear hcz59_4
      try clear hcz61_0
      try clear hcz61_1
      try clear hcz61_2
      try clear hcz61_3
      try clear hcz61_4
      try clear hcz62_0
      try clear hcz62_1
      try clear hcz65_0
      try clear hcz65_1
      try clear hcz65_2
      try clear hcz65_3
      try clear hcz65_4
      try clear hcz67_0
      try clear hcz67_1
      try clear hcz67_2
      try clear hcz67_3
      try clear hcz67_4
      try clear hcz68_0
      try clear hcz68_1
      try clear hcz71_0
      try clear hcz71_1
      try clear hcz71_2
      try clear hcz71_3
      try clear hcz71_4
      try clear hcz73_0
      try clear hcz73_1
      try clear hcz73_2
      try clear hcz73_3
      try clear hcz73_4
      try clear hcz74_0
      try clear hcz74_1
      try clear hfz11_0
      try clear hfz11_1
      try clear hfz13_0
      try clear hfz13_1
      try clear hfz17_0
      try clear hfz17_1
      try clear hfz17_2
      try clear hfz17_3
      try clear hfz17_4
      try clear hfz20_0
      try clear hfz20_1
      try clear hfz25_0
      try clear hfz25_1
      try clear hfz25_2
      try clear hfz25_3
      try clear hfz25_4
      try clear hfz37_0
      try clear hfz37_1
      try clear hfz37_2
      try clear hfz37_3
      try clear hfz37_4
      try clear hfz41_0
      try clear hfz41_1
      try clear hfz41_2
      try clear hfz41_3
      try clear hfz41_4
      try clear hfz45_0
      try clear hfz45_1
      try clear hfz45_2
      try clear hfz45_3
      try clear hfz45_4
      try clear hfz47_0
      try clear hfz47_1
      try clear hfz47_2
      try clear hfz47_3
      try clear hfz47_4
      try clear hfz53_0
      try clear hfz53_1
      try clear hfz53_2
      try clear hfz53_3
      try clear hfz53_4
      try clear hfz55_0
      try clear hfz55_1
      try clear hfz55_2
      try clear hfz55_3
      try clear hfz55_4
      try clear hfz56_0
      try clear hfz56_1
      try clear hfz59_0
      try clear hfz59_1
      try clear hfz59_2
      try clear hfz59_3
      try clear hfz59_4
      try clear hfz61_0
      try clear hfz61_1
      try clear hfz61_2
      try clear hfz61_3
      try clear hfz61_4
      try clear hfz62_0
      try clear hfz62_1
      try clear hfz65_0
      try clear hfz65_1
      try clear hfz65_2
      try clear hfz65_3
      try clear hfz65_4
      try clear hfz67_0
      try clear hfz67_1
      try clear hfz67_2
      try clear hfz67_3
      try clear hfz67_4
      try clear hfz68_0
      try clear hfz68_1
      try clear hfz71_0
      try clear hfz71_1
      try clear hfz71_2
      try clear hfz71_3
      try clear hfz71_4
      try clear hfz73_0
      try clear hfz73_1
      try clear hfz73_2
      try clear hfz73_3
      try clear hfz73_4
      try clear hfz74_0
      try clear hfz74_1
      try clear p2
      try clear p6
      obtain ⟨kq, x111_32, rfl, HA, HJ32, HO_293003, HO_293004, HO_304003, HO_304004, BK279, BK292, BK303, HB⟩ := hcut
      cases kq with
      | zero => exact absurd HA.out (by simp [paymasterlaw14_WithholdMore.j1])
      | succ kj32 =>
       have H := HA.out
       clear HA
       simp only [paymasterlaw14_WithholdMore.j1] at H
       by_cases c75 : x111_32 = true
       ·subst c75
        rw [if_pos rfl] at H
        exact absurd H (by simp)
       ·replace c75 := Bool.eq_false_iff.mpr c75
        subst c75
        rw [if_neg (show ¬ (false = true) by decide)] at H
        have H' := Aside0.mk H
        clear H
        have hnb76 := NB292_279.out
        have hnc76 := NB279_292.out
        have hnb77 := NB292_303.out
        have hnc77 := NB303_292.out
        have hcz78_0 := bc0_ BK292.out
        have hcz78_1 := bc1_ BK292.out
        have hcz78_2 := bc2_ BK292.out
        have hcz78_3 := bc3_ BK292.out
        have hcz78_4 := bc4_ BK292.out
        have hfz78_0 := blk_frozen BK292.out 0
        have hfz78_1 := blk_frozen BK292.out 1
        have hfz78_2 := blk_frozen BK292.out 2
        have hfz78_3 := blk_frozen BK292.out 3
        have hfz78_4 := blk_frozen BK292.out 4
        go_wp2
        repeat (go_quiet (fail); try go_wp2)
        go_loopg [115] kj32 (fun kq v115 w' => ∃ (x115_3 : Int), v115 = .int .i64 x115_3 ∧ Aside0 (paymasterlaw14_WithholdMore.l0 kq (wrap64 (Int.tmod a2 281474976710656)) (t285.length : Int) x115_3 l0_0 l0_1 t282 t283 t284 t285 t288 t293 t294 t295 t296 t299 = some r) ∧ Aside0 (kq ≤ kj32) ∧ Aside0 (Kd.R (Kd.int .i64) 3 w' w.heap.size (fun k_ => some k_ ≠ ((.slice Ao19 t288.length co19) : Value).ownBlock ∧ some k_ ≠ ((.slice Ao26 t296.length co26) : Value).ownBlock ∧ some k_ ≠ ((.slice Ao27 t299.length co27) : Value).ownBlock) (.slice Ao18 t285.length co18) t285) ∧ Aside0 (Kd.R (Kd.int .i64) 3 w' w.heap.size (fun k_ => some k_ ≠ ((.slice Ao18 t285.length co18) : Value).ownBlock ∧ some k_ ≠ ((.slice Ao26 t296.length co26) : Value).ownBlock ∧ some k_ ≠ ((.slice Ao27 t299.length co27) : Value).ownBlock) (.slice Ao19 t288.length co19) t288) ∧ Aside0 (Kd.R (Kd.int .i64) 3 w' w.heap.size (fun k_ => some k_ ≠ ((.slice Ao18 t285.length co18) : Value).ownBlock ∧ some k_ ≠ ((.slice Ao19 t288.length co19) : Value).ownBlock ∧ some k_ ≠ ((.slice Ao27 t299.length co27) : Value).ownBlock) (.slice Ao26 t296.length co26) t296) ∧ Aside0 (Kd.R (Kd.int .i64) 3 w' w.heap.size (fun k_ => some k_ ≠ ((.slice Ao18 t285.length co18) : Value).ownBlock ∧ some k_ ≠ ((.slice Ao19 t288.length co19) : Value).ownBlock ∧ some k_ ≠ ((.slice Ao26 t296.length co26) : Value).ownBlock) (.slice Ao27 t299.length co27) t299) ∧ Aside0 (w'.heap[gb279]? = some (.cells #[(.slice A0_0 l0_0.length c0_0), (.slice A0_1 l0_1.length c0_1)] 25 (0, 0))) ∧ Aside0 (w'.heap[gb292]? = some (.cells #[.int .i64 t282, .int .i64 t283, .int .i64 t284, (.slice Ao18 t285.length co18), (.slice Ao19 t288.length co19)] 30 (0, 0))) ∧ Aside0 (w'.heap[gb303]? = some (.cells #[.int .i64 t293, .int .i64 t294, .int .i64 t295, (.slice Ao26 t296.length co26), (.slice Ao27 t299.length co27)] 30 (0, 0))) ∧ Aside0 (Below w.heap.size w w'))
        case atStart => exact ⟨(0), sm_, H', ⟨Nat.le_refl _⟩, ⟨by refine kr_ ?_; exact HO_293003.out⟩, ⟨by refine kr_ ?_; exact HO_293004.out⟩, ⟨by refine kr_ ?_; exact HO_304003.out⟩, ⟨by refine kr_ ?_; exact HO_304004.out⟩, ⟨bq_ BK279.out⟩, ⟨bq_ BK292.out⟩, ⟨bq_ BK303.out⟩, ⟨bl_⟩⟩
        case round =>
         clear H'
         try clear c1
         try clear c2
         try clear p2
         try clear c3
         try clear c4
         try clear c5
         try clear c6
         try clear p6
         try clear c7
         try clear c16
         try clear c23
         try clear c24
         try clear c28
         try clear c28b0
         try clear c28b1
         try clear c29
         try clear c30
         try clear c30b0
         try clear c30b1
         try clear c34
         try clear c34b0
         try clear c35
         try clear c36
         try clear c38
         try clear c38b0
         try clear c39
         try clear c40
         try clear c42
         try clear c42b0
         try clear c43
         try clear c44
         try clear c46
         try clear c48
         try clear c48b0
         try clear c48b1
         try clear c48b2
         try clear c49
         try clear c49b0
         try clear c49b1
         try clear c49b2
         try clear c50
         try clear c50b0
         try clear c50b1
         try clear c50b2
         try clear c51
         try clear c52
         try clear c54
         try clear c57
         try clear c58
         try clear c60
         try clear c63
         try clear c64
         try clear p64
         try clear c66
         try clear c69
         try clear c70
         try clear c72
         try clear c75
         try clear c76
         try clear c77
         try clear hcz11_0
         try clear hcz11_1
         try clear hcz13_0
         try clear hcz13_1
         try clear hcz17_0
         try clear hcz17_1
         try clear hcz17_2
         try clear hcz17_3
         try clear hcz17_4
         try clear hcz20_0
         try clear hcz20_1
         try clear hcz25_0
         try clear hcz25_1
         try clear hcz25_2
         try clear hcz25_3
         try clear hcz25_4
         try clear hcz37_0
         try clear hcz37_1
         try clear hcz37_2
         try clear hcz37_3
         try clear hcz37_4
         try clear hcz41_0
         try clear hcz41_1
         try clear hcz41_2
         try clear hcz41_3
         try clear hcz41_4
         try clear hcz45_0
         try clear hcz45_1
         try clear hcz45_2
         try clear hcz45_3
         try clear hcz45_4
         try clear hcz47_0
         try clear hcz47_1
         try clear hcz47_2
         try clear hcz47_3
         try clear hcz47_4
         try clear hcz53_0
         try clear hcz53_1
         try clear hcz53_2
         try clear hcz53_3
         try clear hcz53_4
         try clear hcz55_0
         try clear hcz55_1
         try clear hcz55_2
         try clear hcz55_3
         try clear hcz55_4
         try clear hcz56_0
         try clear hcz56_1
         try clear hcz59_0
         try clear hcz59_1
         try clear hcz59_2
         try clear hcz59_3
         try clear hcz59_4
         try clear hcz61_0
         try clear hcz61_1
         try clear hcz61_2
         try clear hcz61_3
         try clear hcz61_4
         try clear hcz62_0
         try clear hcz62_1
         try clear hcz65_0
         try clear hcz65_1
         try clear hcz65_2
         try clear hcz65_3
         try clear hcz65_4
         try clear hcz67_0
         try clear hcz67_1
         try clear hcz67_2
         try clear hcz67_3
         try clear hcz67_4
         try clear hcz68_0
         try clear hcz68_1
         try clear hcz71_0
         try clear hcz71_1
         try clear hcz71_2
         try clear hcz71_3
         try clear hcz71_4
         try clear hcz73_0
         try clear hcz73_1
         try clear hcz73_2
         try clear hcz73_3
         try clear hcz73_4
         try clear hcz74_0
         try clear hcz74_1
         try clear hcz78_0
         try clear hcz78_1
         try clear hcz78_2
         try clear hcz78_3
         try clear hcz78_4
         try clear hfz11_0
         try clear hfz11_1
         try clear hfz13_0
         try clear hfz13_1
         try clear hfz17_0
         try clear hfz17_1
         try clear hfz17_2
         try clear hfz17_3
         try clear hfz17_4
         try clear hfz20_0
         try clear hfz20_1
         try clear hfz25_0
         try clear hfz25_1
         try clear hfz25_2
         try clear hfz25_3
         try clear hfz25_4
         try clear hfz37_0
         try clear hfz37_1
         try clear hfz37_2
         try clear hfz37_3
         try clear hfz37_4
         try clear hfz41_0
         try clear hfz41_1
         try clear hfz41_2
         try clear hfz41_3
         try clear hfz41_4
         try clear hfz45_0
         try clear hfz45_1
         try clear hfz45_2
         try clear hfz45_3
         try clear hfz45_4
         try clear hfz47_0
         try clear hfz47_1
         try clear hfz47_2
         try clear hfz47_3
         try clear hfz47_4
         try clear hfz53_0
         try clear hfz53_1
         try clear hfz53_2
         try clear hfz53_3
         try clear hfz53_4
         try clear hfz55_0
         try clear hfz55_1
         try clear hfz55_2
         try clear hfz55_3
         try clear hfz55_4
         try clear hfz56_0
         try clear hfz56_1
         try clear hfz59_0
         try clear hfz59_1
         try clear hfz59_2
         try clear hfz59_3
         try clear hfz59_4
         try clear hfz61_0
         try clear hfz61_1
         try clear hfz61_2
         try clear hfz61_3
         try clear hfz61_4
         try clear hfz62_0
         try clear hfz62_1
         try clear hfz65_0
         try clear hfz65_1
         try clear hfz65_2
         try clear hfz65_3
         try clear hfz65_4
         try clear hfz67_0
         try clear hfz67_1
         try clear hfz67_2
         try clear hfz67_3
         try clear hfz67_4
         try clear hfz68_0
         try clear hfz68_1
         try clear hfz71_0
         try clear hfz71_1
         try clear hfz71_2
         try clear hfz71_3
         try clear hfz71_4
         try clear hfz73_0
         try clear hfz73_1
         try clear hfz73_2
         try clear hfz73_3
         try clear hfz73_4
         try clear hfz74_0
         try clear hfz74_1
         try clear hfz78_0
         try clear hfz78_1
         try clear hfz78_2
         try clear hfz78_3
         try clear hfz78_4
         try clear p2
         try clear p6
         try clear p64
         obtain ⟨x115_3, rfl, HA, HK3, HO_293003, HO_293004, HO_304003, HO_304004, BK279, BK292, BK303, HB⟩ := hrel
         cases gk with
         | zero => exact absurd HA.out (by simp [paymasterlaw14_WithholdMore.l0])
         | succ k3 =>
          have H := HA.out
          clear HA
          simp only [paymasterlaw14_WithholdMore.l0] at H
          by_cases c79 : x115_3 < (t285.length : Int)
          ·rw [if_pos c79] at H
           have c79b0 : decide (x115_3 < (t285.length : Int)) = true := decide_eq_true c79
           clear c79
           by_cases c80 : 0 ≤ x115_3
           ·rw [if_pos c80] at H
            have c80b0 : decide (0 ≤ x115_3) = true := decide_eq_true c80
            clear c80
            by_cases c81 : x115_3 < (t285.length : Int)
            ·rw [if_pos c81] at H
             have c81b0 : decide (x115_3 < (t285.length : Int)) = true := decide_eq_true c81
             clear c81
             by_cases c82 : (rd t285 x115_3) < 0
             ·rw [if_pos c82] at H
              exact absurd H (by simp)
             ·rw [if_neg c82] at H
              have c82b0 : decide ((rd t285 x115_3) < 0) = false := decide_eq_false c82
              clear c82
              by_cases c83 : (rd t285 x115_3) > (wrap64 (Int.tmod a2 281474976710656))
              ·rw [if_pos c83] at H
               exact absurd H (by simp)
              ·rw [if_neg c83] at H
               have c83b0 : decide ((wrap64 (Int.tmod a2 281474976710656)) < (rd t285 x115_3)) = false := decide_eq_false c83
               clear c83
               by_cases c84 : x115_3 < (t296.length : Int)
               ·rw [if_pos c84] at H
                have c84b0 : decide (x115_3 < (t296.length : Int)) = true := decide_eq_true c84
                clear c84
                by_cases c85 : (rd t296 x115_3) < (rd t285 x115_3)
                ·rw [if_pos c85] at H
                 exact absurd H (by simp)
                ·rw [if_neg c85] at H
                 have c85b0 : decide ((rd t296 x115_3) < (rd t285 x115_3)) = false := decide_eq_false c85
                 clear c85
                 by_cases c86 : x115_3 < (t299.length : Int)
                 ·rw [if_pos c86] at H
                  have c86b0 : decide (x115_3 < (t299.length : Int)) = true := decide_eq_true c86
                  clear c86
                  by_cases c87 : x115_3 < (t288.length : Int)
                  ·rw [if_pos c87] at H
                   have c87b0 : decide (x115_3 < (t288.length : Int)) = true := decide_eq_true c87
                   clear c87
                   by_cases c88 : (rd t299 x115_3) < (rd t288 x115_3)
                   ·rw [if_pos c88] at H
                    exact absurd H (by simp)
                   ·rw [if_neg c88] at H
                    have c88b0 : decide ((rd t299 x115_3) < (rd t288 x115_3)) = false := decide_eq_false c88
                    clear c88
                    by_cases c89 : x115_3 < (l0_1.length : Int)
                    ·rw [if_pos c89] at H
                     have c89b0 : decide (x115_3 < (l0_1.length : Int)) = true := decide_eq_true c89
                     clear c89
                     by_cases c90 : (rd t296 x115_3) > ((rd_T41 l0_1 x115_3).f2)
                     ·rw [if_pos c90] at H
                      exact absurd H (by simp)
                     ·rw [if_neg c90] at H
                      have c90b0 : decide (((rd_T41 l0_1 x115_3).f2) < (rd t296 x115_3)) = false := decide_eq_false c90
                      clear c90
                      have H' := Aside0.mk H
                      clear H
                      have hnb91 := NB292_279.out
                      have hnc91 := NB279_292.out
                      have hnb92 := NB292_303.out
                      have hnc92 := NB303_292.out
                      have hcz93_0 := bc0_ BK292.out
                      have hcz93_1 := bc1_ BK292.out
                      have hcz93_2 := bc2_ BK292.out
                      have hcz93_3 := bc3_ BK292.out
                      have hcz93_4 := bc4_ BK292.out
                      have hfz93_0 := blk_frozen BK292.out 0
                      have hfz93_1 := blk_frozen BK292.out 1
                      have hfz93_2 := blk_frozen BK292.out 2
                      have hfz93_3 := blk_frozen BK292.out 3
                      have hfz93_4 := blk_frozen BK292.out 4
                      have p305 : 0 ≤ (x115_3 : Int) := od_
                      have q305 : x115_3 < (t285.length : Int) := od_
                      obtain ⟨ad305, e305, hx305_0⟩ := Kd.at_int (Kd.R_reads' HO_293003.out).2.2 x115_3 p305 q305
                      cases e305
                      replace p305 := eq_true p305
                      replace q305 := eq_true q305
                      have p306 : 0 ≤ (x115_3 : Int) := od_
                      have q306 : x115_3 < (t285.length : Int) := od_
                      obtain ⟨ad306, e306, hx306_0⟩ := Kd.at_int (Kd.R_reads' HO_293003.out).2.2 x115_3 p306 q306
                      obtain rfl : ad305 = ad306 := (by injection e306)
                      replace p306 := eq_true p306
                      replace q306 := eq_true q306
                      have hnb94 := NB303_279.out
                      have hnc94 := NB279_303.out
                      have hcz95_0 := bc0_ BK303.out
                      have hcz95_1 := bc1_ BK303.out
                      have hcz95_2 := bc2_ BK303.out
                      have hcz95_3 := bc3_ BK303.out
                      have hcz95_4 := bc4_ BK303.out
                      have hfz95_0 := blk_frozen BK303.out 0
                      have hfz95_1 := blk_frozen BK303.out 1
                      have hfz95_2 := blk_frozen BK303.out 2
                      have hfz95_3 := blk_frozen BK303.out 3
                      have hfz95_4 := blk_frozen BK303.out 4
                      have p307 : 0 ≤ (x115_3 : Int) := od_
                      have q307 : x115_3 < (t296.length : Int) := od_
                      obtain ⟨ad307, e307, hx307_0⟩ := Kd.at_int (Kd.R_reads' HO_304003.out).2.2 x115_3 p307 q307
                      cases e307
                      replace p307 := eq_true p307
                      replace q307 := eq_true q307
                      have p308 : 0 ≤ (x115_3 : Int) := od_
                      have q308 : x115_3 < (t285.length : Int) := od_
                      obtain ⟨ad308, e308, hx308_0⟩ := Kd.at_int (Kd.R_reads' HO_293003.out).2.2 x115_3 p308 q308
                      obtain rfl : ad305 = ad308 := (by injection e308)
                      replace p308 := eq_true p308
                      replace q308 := eq_true q308
                      have p309 : 0 ≤ (x115_3 : Int) := od_
                      have q309 : x115_3 < (t299.length : Int) := od_
                      obtain ⟨ad309, e309, hx309_0⟩ := Kd.at_int (Kd.R_reads' HO_304004.out).2.2 x115_3 p309 q309
                      cases e309
                      replace p309 := eq_true p309
                      replace q309 := eq_true q309
                      have p310 : 0 ≤ (x115_3 : Int) := od_
                      have q310 : x115_3 < (t288.length : Int) := od_
                      obtain ⟨ad310, e310, hx310_0⟩ := Kd.at_int (Kd.R_reads' HO_293004.out).2.2 x115_3 p310 q310
                      cases e310
                      replace p310 := eq_true p310
                      replace q310 := eq_true q310
                      have p311 : 0 ≤ (x115_3 : Int) := od_
                      have q311 : x115_3 < (t296.length : Int) := od_
                      obtain ⟨ad311, e311, hx311_0⟩ := Kd.at_int (Kd.R_reads' HO_304003.out).2.2 x115_3 p311 q311
                      obtain rfl : ad307 = ad311 := (by injection e311)
                      replace p311 := eq_true p311
                      replace q311 := eq_true q311
                      have hcz96_0 := bc0_ BK279.out
                      have hcz96_1 := bc1_ BK279.out
                      have hfz96_0 := blk_frozen BK279.out 0
                      have hfz96_1 := blk_frozen BK279.out 1
                      have p312 : 0 ≤ (x115_3 : Int) := od_
                      have q312 : x115_3 < (l0_1.length : Int) := od_
                      obtain ⟨ad312, e312, hx312_0, hx312_1, hx312_2⟩ := at_T41 HR0_1.out x115_3 p312 q312
                      cases e312
                      replace hx312_0 := (HB.out.cell (World.block_lt_of_cell? w _ hx312_0)).trans hx312_0
                      replace hx312_1 := (HB.out.cell (World.block_lt_of_cell? w _ hx312_1)).trans hx312_1
                      replace hx312_2 := (HB.out.cell (World.block_lt_of_cell? w _ hx312_2)).trans hx312_2
                      replace p312 := eq_true p312
                      replace q312 := eq_true q312
                      go_wp2
                      repeat (go_quiet (fail); try go_wp2)
                      go_roundg k3
                      case measure => have := HJ8.out; have := HJ32.out; have := HK3.out; omega
                      case rel => exact ⟨(wrap64 (x115_3 + 1)), sm_, H', ⟨by have := HJ8.out; have := HJ32.out; have := HK3.out; omega⟩, ⟨by refine kr_ ?_; exact HO_293003.out⟩, ⟨by refine kr_ ?_; exact HO_293004.out⟩, ⟨by refine kr_ ?_; exact HO_304003.out⟩, ⟨by refine kr_ ?_; exact HO_304004.out⟩, ⟨bq_ BK279.out⟩, ⟨bq_ BK292.out⟩, ⟨bq_ BK303.out⟩, ⟨bl_⟩⟩
                    ·rw [if_neg c89] at H
                     exact absurd H (by simp)
                  ·rw [if_neg c87] at H
                   exact absurd H (by simp)
                 ·rw [if_neg c86] at H
                  exact absurd H (by simp)
               ·rw [if_neg c84] at H
                exact absurd H (by simp)
            ·rw [if_neg c81] at H
             exact absurd H (by simp)
           ·rw [if_neg c80] at H
            exact absurd H (by simp)
          ·rw [if_neg c79] at H
           have c79b0 : decide (x115_3 < (t285.length : Int)) = false := decide_eq_false c79
           clear c79
           replace H := Option.bind_eq_some_iff.mp H
           obtain ⟨t313, A970, H⟩ := H
           (try dsimp only at H)
           have A97 := Aside0.mk A970
           clear A970
           obtain rfl := Option.some.inj H
           go_wp2_with (first | (go_at_call 10; (with_reducible refine (paymasterlaw14_awake.calls k3  t313 _ A97.out).mono ?_); rintro e w98 ⟨rfl, hb⟩; replace HO_293003 := rl_ HO_293003.out hb; replace HO_293004 := rl_ HO_293004.out hb; replace HO_304003 := rl_ HO_304003.out hb; replace HO_304004 := rl_ HO_304004.out hb; replace BK279 := bb_ BK279.out hb; replace BK292 := bb_ BK292.out hb; replace BK303 := bb_ BK303.out hb; replace HB := hs_ hb; (try clear hb); (try clear hb2); (try clear hk); (try clear hi)))
           repeat (go_quiet (first | (go_at_call 10; (with_reducible refine (paymasterlaw14_awake.calls k3  t313 _ A97.out).mono ?_); rintro e w98 ⟨rfl, hb⟩; replace HO_293003 := rl_ HO_293003.out hb; replace HO_293004 := rl_ HO_293004.out hb; replace HO_304003 := rl_ HO_304003.out hb; replace HO_304004 := rl_ HO_304004.out hb; replace BK279 := bb_ BK279.out hb; replace BK292 := bb_ BK292.out hb; replace BK303 := bb_ BK303.out hb; replace HB := hs_ hb; (try clear hb); (try clear hb2); (try clear hk); (try clear hi))); try go_wp2_with (first | (go_at_call 10; (with_reducible refine (paymasterlaw14_awake.calls k3  t313 _ A97.out).mono ?_); rintro e w98 ⟨rfl, hb⟩; replace HO_293003 := rl_ HO_293003.out hb; replace HO_293004 := rl_ HO_293004.out hb; replace HO_304003 := rl_ HO_304003.out hb; replace HO_304004 := rl_ HO_304004.out hb; replace BK279 := bb_ BK279.out hb; replace BK292 := bb_ BK292.out hb; replace BK303 := bb_ BK303.out hb; replace HB := hs_ hb; (try clear hb); (try clear hb2); (try clear hk); (try clear hi))))
           go_ret
           exact ⟨se_, bl_⟩
 ·replace c6 := Bool.eq_false_iff.mpr c6
  subst c6
  rw [if_neg (show ¬ (false = true) by decide)] at H
  replace H := Option.bind_eq_some_iff.mp H
  obtain ⟨t281, A990, H⟩ := H
  (try dsimp only at H)
  have A99 := Aside0.mk A990
  clear A990
  obtain rfl := Option.some.inj H
  go_enter Try.func4, Try.ntmps4
  go_wp2_with (first | ((with_reducible refine gate_dst (N := 4) rfl ?_); (try (refine gate_guard (by rfl) ?_; dsimp only)); refine bx_ 4 #[.slice A0_0 l0_0.length c0_0, .slice A0_1 l0_1.length c0_1] 25 ?_; intro gb279 hg w100 hbox hb; have BK279 := Aside0.mk hbox; have GW279 := gs_ hg; have GE279 := gs_ hg; replace HB := hs_ hb; clear hb hbox hg; have hcz101_0 := bc0_ BK279.out; have hcz101_1 := bc1_ BK279.out; have hfz101_0 := blk_frozen BK279.out 0; have hfz101_1 := blk_frozen BK279.out 1) | (go_at_call 9; (with_reducible refine (paymasterlaw14_small.calls _ _ l0_0 _ _ l0_1 false _ ?side1 ?side2 ?side3 ?side4 A5.out).mono ?_); (case side1 => exact kc_ (Kd.C_below HR0_0.out HB.out)); (case side2 => exact HC0_0.out); (case side3 => exact kc_ (Kd.C_below HR0_1.out HB.out)); (case side4 => exact HC0_1.out); rintro e w102 ⟨rfl, hb⟩; replace BK279 := bb_ BK279.out hb; replace HB := hs_ hb; (try clear hb); (try clear hb2); (try clear hk); (try clear hi)) | (go_at_call 10; (with_reducible refine (paymasterlaw14_awake.calls k  t281 _ A99.out).mono ?_); rintro e w103 ⟨rfl, hb⟩; replace BK279 := bb_ BK279.out hb; replace HB := hs_ hb; (try clear hb); (try clear hb2); (try clear hk); (try clear hi)))
  repeat (go_quiet (first | ((with_reducible refine gate_dst (N := 4) rfl ?_); (try (refine gate_guard (by rfl) ?_; dsimp only)); refine bx_ 4 #[.slice A0_0 l0_0.length c0_0, .slice A0_1 l0_1.length c0_1] 25 ?_; intro gb279 hg w100 hbox hb; have BK279 := Aside0.mk hbox; have GW279 := gs_ hg; have GE279 := gs_ hg; replace HB := hs_ hb; clear hb hbox hg; have hcz101_0 := bc0_ BK279.out; have hcz101_1 := bc1_ BK279.out; have hfz101_0 := blk_frozen BK279.out 0; have hfz101_1 := blk_frozen BK279.out 1) | (go_at_call 9; (with_reducible refine (paymasterlaw14_small.calls _ _ l0_0 _ _ l0_1 false _ ?side1 ?side2 ?side3 ?side4 A5.out).mono ?_); (case side1 => exact kc_ (Kd.C_below HR0_0.out HB.out)); (case side2 => exact HC0_0.out); (case side3 => exact kc_ (Kd.C_below HR0_1.out HB.out)); (case side4 => exact HC0_1.out); rintro e w102 ⟨rfl, hb⟩; replace BK279 := bb_ BK279.out hb; replace HB := hs_ hb; (try clear hb); (try clear hb2); (try clear hk); (try clear hi)) | (go_at_call 10; (with_reducible refine (paymasterlaw14_awake.calls k  t281 _ A99.out).mono ?_); rintro e w103 ⟨rfl, hb⟩; replace BK279 := bb_ BK279.out hb; replace HB := hs_ hb; (try clear hb); (try clear hb2); (try clear hk); (try clear hi))); try go_wp2_with (first | ((with_reducible refine gate_dst (N := 4) rfl ?_); (try (refine gate_guard (by rfl) ?_; dsimp only)); refine bx_ 4 #[.slice A0_0 l0_0.length c0_0, .slice A0_1 l0_1.length c0_1] 25 ?_; intro gb279 hg w100 hbox hb; have BK279 := Aside0.mk hbox; have GW279 := gs_ hg; have GE279 := gs_ hg; replace HB := hs_ hb; clear hb hbox hg; have hcz101_0 := bc0_ BK279.out; have hcz101_1 := bc1_ BK279.out; have hfz101_0 := blk_frozen BK279.out 0; have hfz101_1 := blk_frozen BK279.out 1) | (go_at_call 9; (with_reducible refine (paymasterlaw14_small.calls _ _ l0_0 _ _ l0_1 false _ ?side1 ?side2 ?side3 ?side4 A5.out).mono ?_); (case side1 => exact kc_ (Kd.C_below HR0_0.out HB.out)); (case side2 => exact HC0_0.out); (case side3 => exact kc_ (Kd.C_below HR0_1.out HB.out)); (case side4 => exact HC0_1.out); rintro e w102 ⟨rfl, hb⟩; replace BK279 := bb_ BK279.out hb; replace HB := hs_ hb; (try clear hb); (try clear hb2); (try clear hk); (try clear hi)) | (go_at_call 10; (with_reducible refine (paymasterlaw14_awake.calls k  t281 _ A99.out).mono ?_); rintro e w103 ⟨rfl, hb⟩; replace BK279 := bb_ BK279.out hb; replace HB := hs_ hb; (try clear hb); (try clear hb2); (try clear hk); (try clear hi))))
  go_ret
  exact ⟨se_, bl_⟩

end Go.Proofs.Ytocaneaofdbpoaa.PA
