/- Contracts of the functions of the given program: written by wip/pmprint.py, a program of this session, which runs the print of the kit over altered functions. -/
import Derived.Test.YtocaneaofdbpoaaPAx0
import Derived.Test.YtocaneaofdbpoaaPAx1
import Derived.Test.YtocaneaofdbpoaaPAx2
import Derived.Test.YtocaneaofdbpoaaPAx3
import Derived.Test.YtocaneaofdbpoaaPAx4
namespace Go.Proofs.Ytocaneaofdbpoaa.PA
open Go.RowKit Go.Proofs.YtocaneaofdbpoaaW.PrintWords Go.Proofs.YtocaneaofdbpoaaW.PrintLast Go.Proofs.YtocaneaofdbpoaaW.PrintMore
attribute [local go_sem] max2_int min2_int max_two min_two max_three min_three max_four min_four   -- for this text's walks alone
set_option linter.unusedVariables false
set_option linter.unusedSimpArgs false

/-! ### withhold_Due: function 14 -/
def withhold_Due.l0 : Nat → Int → List (S41) → Int → Int → Int → Int → Int → List Int → List Int → Option (Int × Int × Int × List Int × List Int × Int)
  | 0, _, _, _, _, _, _, _, _, _ => none
  | k + 1, x2, x39, x40, x41, x173000, x173001, x173002, x173003, x173004 => if x41 < x40 then (if 0 ≤ x41 then (if x41 < (x39.length : Int) then ((rate_Of.f k (mn (mx x2 0) ((rd_T41 x39 x41).f2)) ((rd_T41 x39 x41).f0) 0).bind fun bt177 => ((rate_Of.f k (mn (mx x2 0) ((rd_T41 x39 x41).f2)) ((rd_T41 x39 x41).f1) 0).bind fun bt179 => ((some (([bt177.1] : List Int) : List Int)).bind fun y181 => (if x173003.length + y181.length < 17592186044416 then ((some (([bt179.1] : List Int) : List Int)).bind fun y187 => (if x173004.length + y187.length < 17592186044416 then (withhold_Due.l0 k x2 x39 x40 (wrap64 (x41 + 1)) x173000 x173001 x173002 (x173003 ++ y181) (x173004 ++ y187)) else (none))) else (none))))) else (none)) else (none)) else (some (x173000, x173001, x173002, x173003, x173004, 0))
def withhold_Due.f (k : Nat) (l0_0 : List (S58)) (l0_1 : List (S41)) (a1 : Int) (a2 : Int) : Option (Int × Int × Int × List Int × List Int × Int) := (withhold_Right.f k l0_0 l0_1).bind fun t167 => (if t167 = true then ((withhold_far.f k (([a1, a2] : List Int))).bind fun t171 => (if t171 = true then (some (0, 0, 0, ([] : List Int), ([] : List Int), 3)) else ((brackets_Tax.f k l0_0 a1).bind fun bt173 => (withhold_Due.l0 k a2 l0_1 (l0_1.length : Int) 0 a1 a2 bt173.1 ([] : List Int) ([] : List Int))))) else (some (0, 0, 0, ([] : List Int), ([] : List Int), 1)))
def withhold_Due.T13 : Bool × List (List Nat × List Nat) := (true, [([], []), ([0], [0]), ([], []), ([2], [2]), ([1, 3], [1, 3]), ([], []), ([5], [5]), ([], []), ([7], [7]), ([6, 8, 4], [6, 8]), ([0, 1, 2, 3, 4, 5, 6], []), ([10, 4, 9, 0, 1, 2, 3, 4, 5, 6], [4, 10]), ([0, 1, 2, 3, 4, 5, 6, 7, 8, 9, 10, 11], []), ([12, 9, 11, 0, 1, 2, 3, 4, 5, 6, 7, 8, 9, 10, 11], [9, 12])])
def withhold_Due.B13 : List Nat := [0, 1, 0, 4, 15, 0, 32, 0, 128, 511, 127, 2047, 4095, 8191]
theorem withhold_Due.tab13 : rtab .any (opsOf Try.f14 13) = withhold_Due.T13 := by kernel_rfl
theorem withhold_Due.bits13 : waitsOk withhold_Due.T13.2 withhold_Due.B13 = true := by kernel_rfl
set_option maxHeartbeats 8000000 in
set_option maxRecDepth 100000 in
theorem withhold_Due.calls (k : Nat) (A0_0 : Option Addr) (c0_0 : Nat) (l0_0 : List (S58)) (A0_1 : Option Addr) (c0_1 : Nat) (l0_1 : List (S41)) (a1 : Int) (a2 : Int) (r1 : Int) (r2 : Int) (r3 : Int) (r4 : List Int) (r5 : List Int) (r6 : Int) (w : World) (hr0_0 : Kd.C k58 w A0_0 l0_0.length l0_0) (hc0_0 : l0_0.length ≤ c0_0) (hr0_1 : Kd.C k41 w A0_1 l0_1.length l0_1) (hc0_1 : l0_1.length ≤ c0_1) (h : withhold_Due.f k l0_0 l0_1 a1 a2 = some (r1, r2, r3, r4, r5, r6)) :
    Calls Try.prog 14 #[.agg #[.slice A0_0 l0_0.length c0_0, .slice A0_1 l0_1.length c0_1], .int .i64 a1, .int .i64 a2] w fun e w' => ∃ v3_ v4_ : Value, e = .returned (.tuple #[.agg #[.int .i64 r1, .int .i64 r2, .int .i64 r3, v3_, v4_], .int .i64 r6]) ∧ Kd.R (Kd.int .i64) 3 w' w.heap.size (fun k_ => some k_ ≠ (v4_ : Value).ownBlock) v3_ r4 ∧ Kd.R (Kd.int .i64) 3 w' w.heap.size (fun k_ => some k_ ≠ (v3_ : Value).ownBlock) v4_ r5 ∧ Below w.heap.size w w' := by
 have hu25 := Try.underlying25
 have hu30 := Try.underlying30
 have hu41 := Try.underlying41
 have HR0_0 := Aside0.mk hr0_0
 have HC0_0 := Aside0.mk hc0_0
 clear hr0_0 hc0_0
 have HR0_1 := Aside0.mk hr0_1
 have HC0_1 := Aside0.mk hc0_1
 clear hr0_1 hc0_1
 have HB := Aside0.mk (Below.refl w.heap.size w)
 have H : ((withhold_Right.f k l0_0 l0_1).bind fun t167 => (if t167 = true then ((withhold_far.f k (([a1, a2] : List Int))).bind fun t171 => (if t171 = true then (some (0, 0, 0, ([] : List Int), ([] : List Int), 3)) else ((brackets_Tax.f k l0_0 a1).bind fun bt173 => (withhold_Due.l0 k a2 l0_1 (l0_1.length : Int) 0 a1 a2 bt173.1 ([] : List Int) ([] : List Int))))) else (some (0, 0, 0, ([] : List Int), ([] : List Int), 1)))) = some (r1, r2, r3, r4, r5, r6) := h
 clear h
 replace H := Option.bind_eq_some_iff.mp H
 obtain ⟨t167, A40, H⟩ := H
 (try dsimp only at H)
 have A4 := Aside0.mk A40
 clear A40
 by_cases c5 : t167 = true
 ·subst c5
  rw [if_pos rfl] at H
  obtain ⟨y168, hy168⟩ : ∃ y_ : List Int, y_ = (([a1, a2] : List Int)) := ⟨_, rfl⟩
  replace H : ((withhold_far.f k y168).bind fun t171 => (if t171 = true then (some (0, 0, 0, ([] : List Int), ([] : List Int), 3)) else ((brackets_Tax.f k l0_0 a1).bind fun bt173 => (withhold_Due.l0 k a2 l0_1 (l0_1.length : Int) 0 a1 a2 bt173.1 ([] : List Int) ([] : List Int))))) = some (r1, r2, r3, r4, r5, r6) := by first | (rw [hy168]; with_reducible exact H) | (have H2_ := (Option.bind_some _ _).symm.trans H; rw [hy168]; with_reducible exact H2_) | (have H2_ := (Option.bind_some _ _).symm.trans H; with_reducible exact H2_) | with_reducible exact H | (rw [hy168]; exact H) | exact H
  have Ny168 := Aside0.mk hy168
  clear hy168
  replace H := Option.bind_eq_some_iff.mp H
  obtain ⟨t171, A60, H⟩ := H
  (try dsimp only at H)
  have A6 := Aside0.mk A60
  clear A60
  by_cases c7 : t171 = true
  ·subst c7
   rw [if_pos rfl] at H
   simp only [Option.some.injEq, Prod.mk.injEq] at H
   obtain ⟨rfl, rfl, rfl, rfl, rfl, rfl⟩ := H
   go_enter Try.func14, Try.ntmps14
   go_wp2_with (first | ((with_reducible refine gate_dst (N := 3) rfl ?_); refine bx_ 3 #[.slice A0_0 l0_0.length c0_0, .slice A0_1 l0_1.length c0_1] 25 ?_; intro gb165 hg w8 hbox hb; have BK165 := Aside0.mk hbox; have GW165 := gs_ hg; have GE165 := gs_ hg; replace HB := hs_ hb; clear hb hbox hg) | ((with_reducible refine gate_dst (N := 6) rfl ?_); refine bx_ 6 #[.int .i64 0, .int .i64 0, .int .i64 0, .slice none 0 0, .slice none 0 0] 30 ?_; intro gb166 hg w9 hbox hb; have BK166 := Aside0.mk hbox; have GW166 := gs_ hg; have GE166 := gs_ hg; have NB165_166 := nl_ hg BK165.out; have NB166_165 := ng_ hg BK165.out; replace BK165 := bb_ BK165.out hb; replace HB := hs_ hb; clear hb hbox hg; have hnb10 := NB165_166.out; have hnc10 := NB166_165.out; obtain ⟨hcz11_0, hcz11_1, hfz11_0, hfz11_1⟩ := c2_ BK165.out) | ((with_reducible refine gate_callee (f := 12) rfl ?_); refine goesL_ (some 18) rfl rfl Try.func12 (by kernel_rfl) rfl #[.agg #[.slice A0_0 l0_0.length c0_0, .slice A0_1 l0_1.length c0_1]] rfl ga_ ?_; (with_reducible refine (withhold_Right.calls k _ _ l0_0 _ _ l0_1 true _ ?side1 ?side2 ?side3 ?side4 A4.out).mono ?_); (case side1 => exact kc_ (Kd.C_below HR0_0.out HB.out)); (case side2 => exact HC0_0.out); (case side3 => exact kc_ (Kd.C_below HR0_1.out HB.out)); (case side4 => exact HC0_1.out); rintro e w12 ⟨rfl, hb⟩; refine ⟨_, rfl, ?_⟩; replace BK165 := bb_ BK165.out hb; replace BK166 := bb_ BK166.out hb; replace HB := hs_ hb; (try clear hb); (try clear hb2); (try clear hk); (try clear hi)) | ((with_reducible refine gate_dst (N := 24) rfl ?_); refine Kd.R_lit (Kd.int .i64) _ 3 ?hg (N := 24) ?hd (xs := ([a1, a2] : List Int)) (inner := [.int .i64 a1, .int .i64 a2]) (ok := fun _ => True) (okp := fun _ => True) ?hr ?hp (fun _ hk => hk) trivial (Below.refl _ _) (Nat.le_refl _) (by simp) ?_; (case hd => rfl); (case hg => rfl); (case hr => first | (go_simp; done) | (go_simp; rfl)); (case hp => exact (Reps.one (show Kd.M (Kd.int .i64) _ _ _ a1 [.int .i64 a1] from rfl) (Reps.one (show Kd.M (Kd.int .i64) _ _ _ a2 [.int .i64 a2] from rfl) (Reps.none _ _)))); intro v169 w13 ho14 hb hg_ hnew_; clear hg_ hnew_; (first | rw [← Ny168.out] at ho14 | (simp only [Int.reduceToNat] at ho14; rw [← Ny168.out] at ho14)); have HO170 := rl0_ ho14; replace BK165 := bb_ BK165.out hb; replace BK166 := bb_ BK166.out hb; replace HB := hs_ hb; clear hb ho14; obtain ⟨Ao15, co15, eo15⟩ := Kd.R_slice HO170.out; subst eo15) | ((with_reducible refine gate_callee (f := 20) rfl ?_); refine goesL_ (some 25) rfl rfl Try.func20 (by kernel_rfl) rfl #[.slice Ao15 y168.length co15] rfl ga_ ?_; (with_reducible refine (withhold_far.calls k _ _ y168 true _ ?side1 ?side2 A6.out).mono ?_); (case side1 => exact kc_ (Kd.R_reads' HO170.out).2.2); (case side2 => exact (Kd.R_reads' HO170.out).2.1); rintro e w' ⟨rfl, ⟨nd, rfl⟩⟩; refine ⟨_, rfl, ?_⟩; (try (rw [drewN_self w13]; generalize hq_ : World.drewN w13 _ = w13; replace HO170 := rk_ hq_ HO170.out; replace BK165 := rb_ hq_ BK165.out; replace BK166 := rb_ hq_ BK166.out; replace HB := rh_ hq_; clear hq_)); obtain ⟨hcz16_0, hcz16_1, hcz16_2, hcz16_3, hcz16_4, hfz16_0, hfz16_1, hfz16_2, hfz16_3, hfz16_4⟩ := c5_ BK166.out))
   refine bodyPost_ret (results_ct rfl _ _ gb166 30 #[.int .i64 0, .int .i64 0, .int .i64 0, .slice none 0 0, .slice none 0 0] (0, 0) _ rfl (bp_ BK166.out) Try.underlying30 rfl (by kernel_rfl)) rfl ?_
   exact ⟨_, _, se_, kn_, kn_, bl_⟩
  ·replace c7 := Bool.eq_false_iff.mpr c7
   subst c7
   rw [if_neg (show ¬ (false = true) by decide)] at H
   replace H := Option.bind_eq_some_iff.mp H
   obtain ⟨⟨t173, t174⟩, A170, H⟩ := H
   (try dsimp only at H)
   have A17 := Aside0.mk A170
   clear A170
   have H' := Aside0.mk H
   clear H
   go_enter Try.func14, Try.ntmps14
   go_wp2_with (first | ((with_reducible refine gate_dst (N := 3) rfl ?_); refine bx_ 3 #[.slice A0_0 l0_0.length c0_0, .slice A0_1 l0_1.length c0_1] 25 ?_; intro gb165 hg w18 hbox hb; have BK165 := Aside0.mk hbox; have GW165 := gs_ hg; have GE165 := gs_ hg; replace HB := hs_ hb; clear hb hbox hg) | ((with_reducible refine gate_dst (N := 6) rfl ?_); refine bx_ 6 #[.int .i64 0, .int .i64 0, .int .i64 0, .slice none 0 0, .slice none 0 0] 30 ?_; intro gb166 hg w19 hbox hb; have BK166 := Aside0.mk hbox; have GW166 := gs_ hg; have GE166 := gs_ hg; have NB165_166 := nl_ hg BK165.out; have NB166_165 := ng_ hg BK165.out; replace BK165 := bb_ BK165.out hb; replace HB := hs_ hb; clear hb hbox hg; have hnb20 := NB165_166.out; have hnc20 := NB166_165.out; obtain ⟨hcz21_0, hcz21_1, hfz21_0, hfz21_1⟩ := c2_ BK165.out) | ((with_reducible refine gate_callee (f := 12) rfl ?_); refine goesL_ (some 18) rfl rfl Try.func12 (by kernel_rfl) rfl #[.agg #[.slice A0_0 l0_0.length c0_0, .slice A0_1 l0_1.length c0_1]] rfl ga_ ?_; (with_reducible refine (withhold_Right.calls k _ _ l0_0 _ _ l0_1 true _ ?side1 ?side2 ?side3 ?side4 A4.out).mono ?_); (case side1 => exact kc_ (Kd.C_below HR0_0.out HB.out)); (case side2 => exact HC0_0.out); (case side3 => exact kc_ (Kd.C_below HR0_1.out HB.out)); (case side4 => exact HC0_1.out); rintro e w22 ⟨rfl, hb⟩; refine ⟨_, rfl, ?_⟩; replace BK165 := bb_ BK165.out hb; replace BK166 := bb_ BK166.out hb; replace HB := hs_ hb; (try clear hb); (try clear hb2); (try clear hk); (try clear hi)) | ((with_reducible refine gate_dst (N := 24) rfl ?_); refine Kd.R_lit (Kd.int .i64) _ 3 ?hg (N := 24) ?hd (xs := ([a1, a2] : List Int)) (inner := [.int .i64 a1, .int .i64 a2]) (ok := fun _ => True) (okp := fun _ => True) ?hr ?hp (fun _ hk => hk) trivial (Below.refl _ _) (Nat.le_refl _) (by simp) ?_; (case hd => rfl); (case hg => rfl); (case hr => first | (go_simp; done) | (go_simp; rfl)); (case hp => exact (Reps.one (show Kd.M (Kd.int .i64) _ _ _ a1 [.int .i64 a1] from rfl) (Reps.one (show Kd.M (Kd.int .i64) _ _ _ a2 [.int .i64 a2] from rfl) (Reps.none _ _)))); intro v169 w23 ho24 hb hg_ hnew_; clear hg_ hnew_; (first | rw [← Ny168.out] at ho24 | (simp only [Int.reduceToNat] at ho24; rw [← Ny168.out] at ho24)); have HO170 := rl0_ ho24; replace BK165 := bb_ BK165.out hb; replace BK166 := bb_ BK166.out hb; replace HB := hs_ hb; clear hb ho24; obtain ⟨Ao25, co25, eo25⟩ := Kd.R_slice HO170.out; subst eo25) | ((with_reducible refine gate_callee (f := 20) rfl ?_); refine goesL_ (some 25) rfl rfl Try.func20 (by kernel_rfl) rfl #[.slice Ao25 y168.length co25] rfl ga_ ?_; (with_reducible refine (withhold_far.calls k _ _ y168 false _ ?side1 ?side2 A6.out).mono ?_); (case side1 => exact kc_ (Kd.R_reads' HO170.out).2.2); (case side2 => exact (Kd.R_reads' HO170.out).2.1); rintro e w' ⟨rfl, ⟨nd, rfl⟩⟩; refine ⟨_, rfl, ?_⟩; (try (rw [drewN_self w23]; generalize hq_ : World.drewN w23 _ = w23; replace HO170 := rk_ hq_ HO170.out; replace BK165 := rb_ hq_ BK165.out; replace BK166 := rb_ hq_ BK166.out; replace HB := rh_ hq_; clear hq_))) | ((with_reducible refine gate_dst (N := 8) rfl ?_); refine bx_ 8 #[.int .i64 0, .int .i64 0, .int .i64 0, .slice none 0 0, .slice none 0 0] 30 ?_; intro gb172 hg w26 hbox hb; have BK172 := Aside0.mk hbox; have GW172 := gs_ hg; have GE172 := gs_ hg; have NB165_172 := nl_ hg BK165.out; have NB172_165 := ng_ hg BK165.out; have NB166_172 := nl_ hg BK166.out; have NB172_166 := ng_ hg BK166.out; replace HO170 := rl_ HO170.out hb; replace BK165 := bb_ BK165.out hb; replace BK166 := bb_ BK166.out hb; replace HB := hs_ hb; clear hb hbox hg; have hnb27 := NB172_165.out; have hnc27 := NB165_172.out; have hnb28 := NB172_166.out; have hnc28 := NB166_172.out; obtain ⟨hcz29_0, hcz29_1, hcz29_2, hcz29_3, hcz29_4, hfz29_0, hfz29_1, hfz29_2, hfz29_3, hfz29_4⟩ := c5_ BK172.out; obtain ⟨hcz30_0, hcz30_1, hfz30_0, hfz30_1⟩ := c2_ BK165.out) | ((with_reducible refine gate_callee (f := 26) rfl ?_); refine goesL_ (some 34) rfl rfl Try.func26 (by kernel_rfl) rfl #[.slice A0_0 l0_0.length c0_0, .int .i64 a1] rfl ga_ ?_; (with_reducible refine (brackets_Tax.calls k _ _ l0_0 a1 t173 t174 _ ?side1 ?side2 A17.out).mono ?_); (case side1 => exact Kd.C_below HR0_0.out bl_); (case side2 => exact HC0_0.out); rintro e w31 ⟨rfl, hb⟩; refine ⟨_, rfl, ?_⟩; replace HO170 := rb2_ (ty_ HO170.out BK172.out) hb; replace BK165 := bb_ BK165.out hb; replace BK166 := bb_ BK166.out hb; replace BK172 := Aside0.mk (blk_below (g := gb172) (o := .cells #[.int .i64 a1, .int .i64 a2, .int .i64 0, .slice none 0 0, .slice none 0 0] 30 (0, 0)) (bp_ BK172.out) hb); replace HB := hs_ hb; (try clear hb); (try clear hb2); (try clear hk); (try clear hi); obtain ⟨hcz32_0, hcz32_1, hcz32_2, hcz32_3, hcz32_4, hfz32_0, hfz32_1, hfz32_2, hfz32_3, hfz32_4⟩ := c5_ BK172.out; obtain ⟨hcz33_0, hcz33_1, hfz33_0, hfz33_1⟩ := c2_ BK165.out))
   go_loopg [41] k (fun kq v41 w' => ∃ (x41_1 : Int) (x173003_1 : List Int) (x173004_1 : List Int) (u173003 : Value) (u173004 : Value), v41 = .int .i64 x41_1 ∧ Aside0 (withhold_Due.l0 kq a2 l0_1 (l0_1.length : Int) x41_1 a1 a2 t173 x173003_1 x173004_1 = some (r1, r2, r3, r4, r5, r6)) ∧ Aside0 (kq ≤ k) ∧ Aside0 (Kd.R (Kd.int .i64) 3 w' w.heap.size (fun k_ => some k_ ≠ (u173004 : Value).ownBlock) u173003 x173003_1) ∧ Aside0 (Kd.R (Kd.int .i64) 3 w' w.heap.size (fun k_ => some k_ ≠ (u173003 : Value).ownBlock) u173004 x173004_1) ∧ Aside0 (w'.heap[gb165]? = some (.cells #[(.slice A0_0 l0_0.length c0_0), (.slice A0_1 l0_1.length c0_1)] 25 (0, 0))) ∧ Aside0 (w'.heap[gb166]? = some (.cells #[.int .i64 0, .int .i64 0, .int .i64 0, (.slice none 0 0), (.slice none 0 0)] 30 (0, 0))) ∧ Aside0 (w'.heap[gb172]? = some (.cells #[.int .i64 a1, .int .i64 a2, .int .i64 t173, u173003, u173004] 30 (0, 0))) ∧ Aside0 (Below w.heap.size w w'))
   case atStart => exact ⟨(0), (([] : List Int)), (([] : List Int)), (.slice none 0 0), (.slice none 0 0), sm_, H', ⟨Nat.le_refl _⟩, ⟨kn_⟩, ⟨kn_⟩, ⟨bf_ BK165.out⟩, ⟨bf_ BK166.out⟩, ⟨bp_ BK172.out⟩, ⟨bl_⟩⟩
   case round =>
    clear H'
    try clear c5; try clear c7; try clear hcz21_0; try clear hcz21_1; try clear hcz29_0; try clear hcz29_1; try clear hcz29_2; try clear hcz29_3; try clear hcz29_4; try clear hcz30_0; try clear hcz30_1; try clear hcz32_0; try clear hcz32_1; try clear hcz32_2; try clear hcz32_3; try clear hcz32_4; try clear hcz33_0; try clear hcz33_1; try clear hfz21_0; try clear hfz21_1; try clear hfz29_0; try clear hfz29_1
    try clear hfz29_2; try clear hfz29_3; try clear hfz29_4; try clear hfz30_0; try clear hfz30_1; try clear hfz32_0; try clear hfz32_1; try clear hfz32_2; try clear hfz32_3; try clear hfz32_4; try clear hfz33_0; try clear hfz33_1
    obtain ⟨x41_1, x173003_1, x173004_1, u173003, u173004, rfl, HA, HK1, HO_173003, HO_173004, BK165, BK166, BK172, HB⟩ := hrel
    cases gk with
    | zero => exact absurd HA.out (by simp [withhold_Due.l0])
    | succ k1 =>
     have H := HA.out
     clear HA
     simp only [withhold_Due.l0] at H
     by_cases c34 : x41_1 < (l0_1.length : Int)
     ·rw [if_pos c34] at H
      have c34b0 : decide (x41_1 < (l0_1.length : Int)) = true := decide_eq_true c34
      clear c34
      by_cases c35 : 0 ≤ x41_1
      ·rw [if_pos c35] at H
       have c35b0 : decide (0 ≤ x41_1) = true := decide_eq_true c35
       clear c35
       by_cases c36 : x41_1 < (l0_1.length : Int)
       ·rw [if_pos c36] at H
        have c36b0 : decide (x41_1 < (l0_1.length : Int)) = true := decide_eq_true c36
        clear c36
        obtain ⟨ji37, hji37⟩ : ∃ j_ : Int, (mx a2 0) = j_ := ⟨_, rfl⟩
        replace H : ((rate_Of.f k1 (mn (ji37) ((rd_T41 l0_1 x41_1).f2)) ((rd_T41 l0_1 x41_1).f0) 0).bind fun bt177 => ((rate_Of.f k1 (mn (ji37) ((rd_T41 l0_1 x41_1).f2)) ((rd_T41 l0_1 x41_1).f1) 0).bind fun bt179 => ((some (([bt177.1] : List Int) : List Int)).bind fun y181 => (if x173003_1.length + y181.length < 17592186044416 then ((some (([bt179.1] : List Int) : List Int)).bind fun y187 => (if x173004_1.length + y187.length < 17592186044416 then (withhold_Due.l0 k1 a2 l0_1 (l0_1.length : Int) (wrap64 (x41_1 + 1)) a1 a2 t173 (x173003_1 ++ y181) (x173004_1 ++ y187)) else (none))) else (none))))) = some (r1, r2, r3, r4, r5, r6) := by first | (rw [hji37] at H; exact H) | (simp only [hji37] at H ⊢; exact H)
        have hji37_ : (if a2 < 0 then 0 else a2) = ji37 := hji37
        obtain ⟨ji38, hji38⟩ : ∃ j_ : Int, (mn (ji37) ((rd_T41 l0_1 x41_1).f2)) = j_ := ⟨_, rfl⟩
        replace H : ((rate_Of.f k1 (ji38) ((rd_T41 l0_1 x41_1).f0) 0).bind fun bt177 => ((rate_Of.f k1 (ji38) ((rd_T41 l0_1 x41_1).f1) 0).bind fun bt179 => ((some (([bt177.1] : List Int) : List Int)).bind fun y181 => (if x173003_1.length + y181.length < 17592186044416 then ((some (([bt179.1] : List Int) : List Int)).bind fun y187 => (if x173004_1.length + y187.length < 17592186044416 then (withhold_Due.l0 k1 a2 l0_1 (l0_1.length : Int) (wrap64 (x41_1 + 1)) a1 a2 t173 (x173003_1 ++ y181) (x173004_1 ++ y187)) else (none))) else (none))))) = some (r1, r2, r3, r4, r5, r6) := by first | (rw [hji38] at H; exact H) | (simp only [hji38] at H ⊢; exact H)
        have hji38_ : (if ((rd_T41 l0_1 x41_1).f2) < (ji37) then ((rd_T41 l0_1 x41_1).f2) else (ji37)) = ji38 := hji38
        replace H := Option.bind_eq_some_iff.mp H
        obtain ⟨⟨t177, t178⟩, A390, H⟩ := H
        (try dsimp only at H)
        have A39 := Aside0.mk A390
        clear A390
        replace H := Option.bind_eq_some_iff.mp H
        obtain ⟨⟨t179, t180⟩, A400, H⟩ := H
        (try dsimp only at H)
        have A40 := Aside0.mk A400
        clear A400
        obtain ⟨y181, hy181⟩ : ∃ y_ : List Int, y_ = (([t177] : List Int)) := ⟨_, rfl⟩
        replace H : (if x173003_1.length + y181.length < 17592186044416 then ((some (([t179] : List Int) : List Int)).bind fun y187 => (if x173004_1.length + y187.length < 17592186044416 then (withhold_Due.l0 k1 a2 l0_1 (l0_1.length : Int) (wrap64 (x41_1 + 1)) a1 a2 t173 (x173003_1 ++ y181) (x173004_1 ++ y187)) else (none))) else (none)) = some (r1, r2, r3, r4, r5, r6) := by first | (rw [hy181]; with_reducible exact H) | (have H2_ := (Option.bind_some _ _).symm.trans H; rw [hy181]; with_reducible exact H2_) | (have H2_ := (Option.bind_some _ _).symm.trans H; with_reducible exact H2_) | with_reducible exact H | (rw [hy181]; exact H) | exact H
        have Ny181 := Aside0.mk hy181
        clear hy181
        by_cases c41 : x173003_1.length + y181.length < 17592186044416
        ·rw [if_pos c41] at H
         have LMc41 := Aside0.mk c41
         clear c41
         obtain ⟨y184, hy184⟩ : ∃ y_ : List Int, y_ = (x173003_1 ++ y181) := ⟨_, rfl⟩
         replace H : ((some (([t179] : List Int) : List Int)).bind fun y187 => (if x173004_1.length + y187.length < 17592186044416 then (withhold_Due.l0 k1 a2 l0_1 (l0_1.length : Int) (wrap64 (x41_1 + 1)) a1 a2 t173 y184 (x173004_1 ++ y187)) else (none))) = some (r1, r2, r3, r4, r5, r6) := by first | (rw [hy184]; with_reducible exact H) | (have H2_ := (Option.bind_some _ _).symm.trans H; rw [hy184]; with_reducible exact H2_) | (have H2_ := (Option.bind_some _ _).symm.trans H; with_reducible exact H2_) | with_reducible exact H | (rw [hy184]; exact H) | exact H
         have Ny184 := Aside0.mk hy184
         clear hy184
         obtain ⟨y187, hy187⟩ : ∃ y_ : List Int, y_ = (([t179] : List Int)) := ⟨_, rfl⟩
         replace H : (if x173004_1.length + y187.length < 17592186044416 then (withhold_Due.l0 k1 a2 l0_1 (l0_1.length : Int) (wrap64 (x41_1 + 1)) a1 a2 t173 y184 (x173004_1 ++ y187)) else (none)) = some (r1, r2, r3, r4, r5, r6) := by first | (rw [hy187]; with_reducible exact H) | (have H2_ := (Option.bind_some _ _).symm.trans H; rw [hy187]; with_reducible exact H2_) | (have H2_ := (Option.bind_some _ _).symm.trans H; with_reducible exact H2_) | with_reducible exact H | (rw [hy187]; exact H) | exact H
         have Ny187 := Aside0.mk hy187
         clear hy187
         by_cases c42 : x173004_1.length + y187.length < 17592186044416
         ·rw [if_pos c42] at H
          have LMc42 := Aside0.mk c42
          clear c42
          obtain ⟨y190, hy190⟩ : ∃ y_ : List Int, y_ = (x173004_1 ++ y187) := ⟨_, rfl⟩
          replace H : (withhold_Due.l0 k1 a2 l0_1 (l0_1.length : Int) (wrap64 (x41_1 + 1)) a1 a2 t173 y184 y190) = some (r1, r2, r3, r4, r5, r6) := by first | (rw [hy190]; with_reducible exact H) | (have H2_ := (Option.bind_some _ _).symm.trans H; rw [hy190]; with_reducible exact H2_) | (have H2_ := (Option.bind_some _ _).symm.trans H; with_reducible exact H2_) | with_reducible exact H | (rw [hy190]; exact H) | exact H
          have Ny190 := Aside0.mk hy190
          clear hy190
          have H' := Aside0.mk H
          clear H
          have p175 : 0 ≤ (x41_1 : Int) := od_
          have q175 : x41_1 < (l0_1.length : Int) := od_
          obtain ⟨ad175, e175, hx175_0, hx175_1, hx175_2⟩ := at_T41 HR0_1.out x41_1 p175 q175
          cases e175
          replace hx175_0 := (HB.out.cell (World.block_lt_of_cell? w _ hx175_0)).trans hx175_0
          replace hx175_1 := (HB.out.cell (World.block_lt_of_cell? w _ hx175_1)).trans hx175_1
          replace hx175_2 := (HB.out.cell (World.block_lt_of_cell? w _ hx175_2)).trans hx175_2
          replace p175 := eq_true p175
          replace q175 := eq_true q175
          try go_wp2_with (first | ((with_reducible refine gate_dst (N := 10) rfl ?_); refine bx_ 10 #[.int .i64 0, .int .i64 0, .int .i64 0] 41 ?_; intro gb176 hg w43 hbox hb; have BK176 := Aside0.mk hbox; have GW176 := gs_ hg; have GE176 := gs_ hg; have NB165_176 := nl_ hg BK165.out; have NB176_165 := ng_ hg BK165.out; have NB166_176 := nl_ hg BK166.out; have NB176_166 := ng_ hg BK166.out; have NB172_176 := nl_ hg BK172.out; have NB176_172 := ng_ hg BK172.out; replace HO_173003 := rl_ HO_173003.out hb; replace HO_173004 := rl_ HO_173004.out hb; replace BK165 := bb_ BK165.out hb; replace BK166 := bb_ BK166.out hb; replace BK172 := bb_ BK172.out hb; replace HB := hs_ hb; clear hb hbox hg; have hnb44 := NB176_165.out; have hnc44 := NB165_176.out; have hnb45 := NB176_166.out; have hnc45 := NB166_176.out; have hnb46 := NB176_172.out; have hnc46 := NB172_176.out; obtain ⟨hcz47_0, hcz47_1, hcz47_2, hfz47_0, hfz47_1, hfz47_2⟩ := c3_ BK176.out) | ((with_reducible refine gate_callee (f := 27) rfl ?_); refine goesL_ (some 54) rfl rfl Try.func27 (by kernel_rfl) rfl #[.int .i64 ji38, .int .i64 ((rd_T41 l0_1 x41_1).f0), .int .i64 0] rfl (by (try simp only [List.map_toArray, List.map_cons, List.map_nil]); first | done | (simp only [hji38]; rfl) | rfl | (simp only [List.length_drop, List.length_take]; rfl)) ?_; (with_reducible refine (rate_Of.calls k1 ji38 ((rd_T41 l0_1 x41_1).f0) 0 t177 t178 _ A39.out).mono ?_); rintro e w' ⟨rfl, ⟨nd, rfl⟩⟩; refine ⟨_, rfl, ?_⟩) | ((with_reducible refine gate_callee (f := 27) rfl ?_); refine goesL_ (some 61) rfl rfl Try.func27 (by kernel_rfl) rfl #[.int .i64 ji38, .int .i64 ((rd_T41 l0_1 x41_1).f1), .int .i64 0] rfl (by (try simp only [List.map_toArray, List.map_cons, List.map_nil]); first | done | (simp only [hji38]; rfl) | rfl | (simp only [List.length_drop, List.length_take]; rfl)) ?_; (with_reducible refine (rate_Of.calls k1 ji38 ((rd_T41 l0_1 x41_1).f1) 0 t179 t180 _ A40.out).mono ?_); rintro e w' ⟨rfl, ⟨nd, rfl⟩⟩; refine ⟨_, rfl, ?_⟩; obtain ⟨Ao48, co48, eo48⟩ := Kd.R_slice HO_173003.out; subst eo48; obtain ⟨Ao49, co49, eo49⟩ := Kd.R_slice HO_173004.out; subst eo49))
          have n0_ : Aside0 (Kd.R (Kd.int .i64) 3 (((w43.setCell ⟨gb176, 0, none⟩ (.int .i64 ((rd_T41 l0_1 x41_1).f0))).setCell ⟨gb176, 1, none⟩ (.int .i64 ((rd_T41 l0_1 x41_1).f1))).setCell ⟨gb176, 2, none⟩ (.int .i64 ((rd_T41 l0_1 x41_1).f2))) w.heap.size (fun k_ => some k_ ≠ (.slice Ao49 x173004_1.length co49 : Value).ownBlock) (.slice Ao48 x173003_1.length co48) x173003_1) := ⟨rs_ (ty_ HO_173003.out BK176.out)⟩
          have n1_ : Aside0 (Kd.R (Kd.int .i64) 3 (((w43.setCell ⟨gb176, 0, none⟩ (.int .i64 ((rd_T41 l0_1 x41_1).f0))).setCell ⟨gb176, 1, none⟩ (.int .i64 ((rd_T41 l0_1 x41_1).f1))).setCell ⟨gb176, 2, none⟩ (.int .i64 ((rd_T41 l0_1 x41_1).f2))) w.heap.size (fun k_ => some k_ ≠ (.slice Ao48 x173003_1.length co48 : Value).ownBlock) (.slice Ao49 x173004_1.length co49) x173004_1) := ⟨rs_ (ty_ HO_173004.out BK176.out)⟩
          have n2_ : Aside0 ((((w43.setCell ⟨gb176, 0, none⟩ (.int .i64 ((rd_T41 l0_1 x41_1).f0))).setCell ⟨gb176, 1, none⟩ (.int .i64 ((rd_T41 l0_1 x41_1).f1))).setCell ⟨gb176, 2, none⟩ (.int .i64 ((rd_T41 l0_1 x41_1).f2))).heap[gb165]? = some (.cells #[.slice A0_0 l0_0.length c0_0, .slice (some ad175) l0_1.length c0_1] 25 (0, 0))) := ⟨bf_ BK165.out⟩
          have n3_ : Aside0 ((((w43.setCell ⟨gb176, 0, none⟩ (.int .i64 ((rd_T41 l0_1 x41_1).f0))).setCell ⟨gb176, 1, none⟩ (.int .i64 ((rd_T41 l0_1 x41_1).f1))).setCell ⟨gb176, 2, none⟩ (.int .i64 ((rd_T41 l0_1 x41_1).f2))).heap[gb166]? = some (.cells #[.int .i64 0, .int .i64 0, .int .i64 0, .slice none 0 0, .slice none 0 0] 30 (0, 0))) := ⟨bf_ BK166.out⟩
          have n4_ : Aside0 ((((w43.setCell ⟨gb176, 0, none⟩ (.int .i64 ((rd_T41 l0_1 x41_1).f0))).setCell ⟨gb176, 1, none⟩ (.int .i64 ((rd_T41 l0_1 x41_1).f1))).setCell ⟨gb176, 2, none⟩ (.int .i64 ((rd_T41 l0_1 x41_1).f2))).heap[gb172]? = some (.cells #[.int .i64 a1, .int .i64 a2, .int .i64 t173, .slice Ao48 x173003_1.length co48, .slice Ao49 x173004_1.length co49] 30 (0, 0))) := ⟨bf_ BK172.out⟩
          have n5_ : Aside0 ((((w43.setCell ⟨gb176, 0, none⟩ (.int .i64 ((rd_T41 l0_1 x41_1).f0))).setCell ⟨gb176, 1, none⟩ (.int .i64 ((rd_T41 l0_1 x41_1).f1))).setCell ⟨gb176, 2, none⟩ (.int .i64 ((rd_T41 l0_1 x41_1).f2))).heap[gb176]? = some (.cells #[.int .i64 ((rd_T41 l0_1 x41_1).f0), .int .i64 ((rd_T41 l0_1 x41_1).f1), .int .i64 ((rd_T41 l0_1 x41_1).f2)] 41 (0, 0))) := ⟨bp_ BK176.out⟩
          have n6_ : Aside0 (Below w.heap.size w (((w43.setCell ⟨gb176, 0, none⟩ (.int .i64 ((rd_T41 l0_1 x41_1).f0))).setCell ⟨gb176, 1, none⟩ (.int .i64 ((rd_T41 l0_1 x41_1).f1))).setCell ⟨gb176, 2, none⟩ (.int .i64 ((rd_T41 l0_1 x41_1).f2)))) := ⟨bl_⟩
          (try clear HO_173003)
          (try clear HO_173004)
          (try clear BK165)
          (try clear BK166)
          (try clear BK172)
          (try clear BK176)
          (try clear HB)
          generalize (((w43.setCell ⟨gb176, 0, none⟩ (.int .i64 ((rd_T41 l0_1 x41_1).f0))).setCell ⟨gb176, 1, none⟩ (.int .i64 ((rd_T41 l0_1 x41_1).f1))).setCell ⟨gb176, 2, none⟩ (.int .i64 ((rd_T41 l0_1 x41_1).f2))) = w50 at n0_ n1_ n2_ n3_ n4_ n5_ n6_ ⊢
          have HO_173003 := n0_
          have HO_173004 := n1_
          have BK165 := n2_
          have BK166 := n3_
          have BK172 := n4_
          have BK176 := n5_
          have HB := n6_
          clear n0_ n1_ n2_ n3_ n4_ n5_ n6_
          (try (rw [drewN_self w50]; generalize hq_ : World.drewN w50 _ = w50; replace HO_173003 := rk_ hq_ HO_173003.out; replace HO_173004 := rk_ hq_ HO_173004.out; replace BK165 := rb_ hq_ BK165.out; replace BK166 := rb_ hq_ BK166.out; replace BK172 := rb_ hq_ BK172.out; replace BK176 := rb_ hq_ BK176.out; replace HB := rh_ hq_; clear hq_))
          replace HO_173003 := Aside0.mk (Kd.R_drew HO_173003.out)
          replace HO_173004 := Aside0.mk (Kd.R_drew HO_173004.out)
          replace BK165 := Aside0.mk (blk_drew BK165.out)
          replace BK166 := Aside0.mk (blk_drew BK166.out)
          replace BK172 := Aside0.mk (blk_drew BK172.out)
          replace BK176 := Aside0.mk (blk_drew BK176.out)
          replace HB := Aside0.mk (below_drew1 HB.out)
          refine start_ (n := 14) (S := fun w' => w'.cell? ⟨gb172, 0, none⟩ = some (.int .i64 a1) ∧ w'.cell? ⟨gb172, 1, none⟩ = some (.int .i64 a2) ∧ w'.cell? ⟨gb172, 2, none⟩ = some (.int .i64 t173) ∧ w'.cell? ⟨gb172, 3, none⟩ = some (.slice Ao48 x173003_1.length co48) ∧ w'.cell? ⟨gb172, 4, none⟩ = some (.slice Ao49 x173004_1.length co49)) (ds := [11, 13]) #[false, false, false, false, false, false, false, false, false, false, false, false, false, false] (by kernel_rfl) rfl rfl ⟨(blk_cell BK172.out 0).trans rfl, (blk_cell BK172.out 1).trans rfl, (blk_cell BK172.out 2).trans rfl, (blk_cell BK172.out 3).trans rfl, (blk_cell BK172.out 4).trans rfl⟩ (fun hHeld => ?_); refine with_tabW withhold_Due.tab13 withhold_Due.bits13 (fun HT_ HW_ => ?_)
          generalize w50.drew = w51 at HO_173003 HO_173004 BK165 BK166 BK172 BK176 HB hHeld ⊢
          refine pure_ (i := 0) (N := some 64) (v := ?_) (a' := ?_) #[true, false, false, false, false, false, false, false, false, false, false, false, false, false] rfl rfl (any_of HT_.out (by kernel_rfl)) (fun _ _ _ h => h) (Or.inl ⟨by rfl, ?_⟩) ?_ ?_
          rotate_left
          ·intro w'
           go_simp
           with_reducible rfl
          rotate_left
          ·simp only [Act.put, List.setIfInBounds_toArray, List.set_cons_zero, List.set_cons_succ, i64_w, i32_w]
           rfl
          refine pure_ (i := 2) (N := some 66) (v := ?_) (a' := ?_) #[true, false, true, false, false, false, false, false, false, false, false, false, false, false] rfl rfl (any_of HT_.out (by kernel_rfl)) (fun _ _ _ h => h) (Or.inl ⟨by rfl, ?_⟩) ?_ ?_
          rotate_left
          ·intro w'
           go_simp
           with_reducible rfl
          rotate_left
          ·simp only [Act.put, List.setIfInBounds_toArray, List.set_cons_zero, List.set_cons_succ, i64_w, i32_w]
           rfl
          refine pure_ (i := 5) (N := some 69) (v := ?_) (a' := ?_) #[true, false, true, false, false, true, false, false, false, false, false, false, false, false] rfl rfl (any_of HT_.out (by kernel_rfl)) (fun _ _ _ h => h) (Or.inl ⟨by rfl, ?_⟩) ?_ ?_
          rotate_left
          ·intro w'
           go_simp
           with_reducible rfl
          rotate_left
          ·simp only [Act.put, List.setIfInBounds_toArray, List.set_cons_zero, List.set_cons_succ, i64_w, i32_w]
           rfl
          refine pure_ (i := 7) (N := some 71) (v := ?_) (a' := ?_) #[true, false, true, false, false, true, false, true, false, false, false, false, false, false] rfl rfl (any_of HT_.out (by kernel_rfl)) (fun _ _ _ h => h) (Or.inl ⟨by rfl, ?_⟩) ?_ ?_
          rotate_left
          ·intro w'
           go_simp
           with_reducible rfl
          rotate_left
          ·simp only [Act.put, List.setIfInBounds_toArray, List.set_cons_zero, List.set_cons_succ, i64_w, i32_w]
           rfl
          refine take_ (i := 1) (N := some 65) (v := ?_) (a' := ?_) #[true, true, true, false, false, true, false, true, false, false, false, false, false, false] rfl rfl (take_ofW HT_.out HW_.out (by kernel_rfl)) (fun _ _ _ h => h) (Or.inl ⟨by rfl, ?_⟩) hHeld ?_ ?_
          rotate_left
          ·rintro w' ⟨s0, s1, s2, s3, s4⟩
           go_simp
           with_reducible rfl
          rotate_left
          ·simp only [Act.put, List.setIfInBounds_toArray, List.set_cons_zero, List.set_cons_succ, i64_w, i32_w]
           rfl
          refine take_ (i := 6) (N := some 70) (v := ?_) (a' := ?_) #[true, true, true, false, false, true, true, true, false, false, false, false, false, false] rfl rfl (take_ofW HT_.out HW_.out (by kernel_rfl)) (fun _ _ _ h => h) (Or.inl ⟨by rfl, ?_⟩) hHeld ?_ ?_
          rotate_left
          ·rintro w' ⟨s0, s1, s2, s3, s4⟩
           go_simp
           with_reducible rfl
          rotate_left
          ·simp only [Act.put, List.setIfInBounds_toArray, List.set_cons_zero, List.set_cons_succ, i64_w, i32_w]
           rfl
          refine join_ (σ := Value × Value × Value) 4 #[true, true, true, true, true, true, true, true, true, false, true, false, false, false] (fun s_ => [(67, s_.1), (68, s_.2.1), (72, s_.2.2), (74, .pointer (some ⟨gb172, 3, none⟩))]) (fun s_ w' => (w'.cell? ⟨gb172, 0, none⟩ = some (.int .i64 a1) ∧ w'.cell? ⟨gb172, 1, none⟩ = some (.int .i64 a2) ∧ w'.cell? ⟨gb172, 2, none⟩ = some (.int .i64 t173) ∧ w'.cell? ⟨gb172, 3, none⟩ = some (.slice Ao48 x173003_1.length co48) ∧ w'.cell? ⟨gb172, 4, none⟩ = some (.slice Ao49 x173004_1.length co49)) ∧ (Kd.R (Kd.int .i64) 3 w' w.heap.size (fun k_ => some k_ ≠ (s_.2.1 : Value).ownBlock ∧ some k_ ≠ (s_.2.2 : Value).ownBlock ∧ some k_ ≠ (.slice Ao49 x173004_1.length co49 : Value).ownBlock) s_.1 y181) ∧ (Kd.R (Kd.int .i64) 3 w' w.heap.size (fun k_ => some k_ ≠ (s_.1 : Value).ownBlock ∧ some k_ ≠ (s_.2.2 : Value).ownBlock ∧ some k_ ≠ (.slice Ao49 x173004_1.length co49 : Value).ownBlock) s_.2.1 y184) ∧ (Kd.R (Kd.int .i64) 3 w' w.heap.size (fun k_ => some k_ ≠ (s_.1 : Value).ownBlock ∧ some k_ ≠ (s_.2.1 : Value).ownBlock ∧ some k_ ≠ (.slice Ao49 x173004_1.length co49 : Value).ownBlock) s_.2.2 y187) ∧ (Kd.R (Kd.int .i64) 3 w' w.heap.size (fun k_ => some k_ ≠ (s_.1 : Value).ownBlock ∧ some k_ ≠ (s_.2.1 : Value).ownBlock ∧ some k_ ≠ (s_.2.2 : Value).ownBlock) (.slice Ao49 x173004_1.length co49) x173004_1) ∧ (w'.heap[gb165]? = some (.cells #[.slice A0_0 l0_0.length c0_0, .slice (some ad175) l0_1.length c0_1] 25 (0, 0))) ∧ (w'.heap[gb166]? = some (.cells #[.int .i64 0, .int .i64 0, .int .i64 0, .slice none 0 0, .slice none 0 0] 30 (0, 0))) ∧ (w'.heap[gb172]? = some (.cells #[.int .i64 a1, .int .i64 a2, .int .i64 t173, .slice Ao48 x173003_1.length co48, .slice Ao49 x173004_1.length co49] 30 (0, 0))) ∧ (w'.heap[gb176]? = some (.cells #[.int .i64 ((rd_T41 l0_1 x41_1).f0), .int .i64 ((rd_T41 l0_1 x41_1).f1), .int .i64 ((rd_T41 l0_1 x41_1).f2)] 41 (0, 0))) ∧ (Below w.heap.size w w')) ?_ ?_
          rotate_left
          ·intro hCont
           refine two_ (i := 3) (j := 8) (Ni := some 67) (Nj := some 72) #[true, true, true, true, false, true, true, true, false, false, false, false, false, false] #[true, true, true, false, false, true, true, true, true, false, false, false, false, false] rfl rfl rfl rfl (two_of HT_.out (by kernel_rfl)) (by decide) (by decide) (fun K hK => ?_) (fun K hK => ?_)
           ·skip
            refine Kd.R_lit_step (Kd.int .i64) _ 3 ?hg (N := 67) ?hd (xs := ([t177] : List Int)) (inner := [.int .i64 t177]) (ok := fun _ => True) (okp := fun _ => True) ?hr ?hp (fun _ hk => hk) trivial (Below.refl _ _) (Nat.le_refl _) (by simp) ?_; (case hd => rfl); (case hg => rfl); (case hr => first | (go_simp; done) | (go_simp; rfl)); (case hp => exact (Reps.one (show Kd.M (Kd.int .i64) _ _ _ t177 [.int .i64 t177] from rfl) (Reps.none _ _)))
            intro v182 w52 ho53 hb hg_ hnew_
            clear hg_ hnew_
            (first | rw [← Ny181.out] at ho53 | (simp only [Int.reduceToNat] at ho53; rw [← Ny181.out] at ho53))
            have HO183 := rl0_ (rn_ (rn_ ho53 HO_173003.out) HO_173004.out)
            replace HO_173003 := re_ HO_173003.out ho53 hb
            replace HO_173004 := re_ HO_173004.out ho53 hb
            replace BK165 := bb_ BK165.out hb
            replace BK166 := bb_ BK166.out hb
            replace BK172 := bb_ BK172.out hb
            replace BK176 := bb_ BK176.out hb
            replace HB := hs_ hb
            clear hb ho53
            obtain ⟨Ao55, co55, eo55⟩ := Kd.R_slice HO183.out
            (first | subst eo55 | (injection eo55 with f1_ f2_ f3_; have f4_ := f1_.symm; have f5_ := f3_.symm; clear f1_ f2_ f3_; subst f4_; subst f5_))
            refine hK.out _ _ ⟨(blk_cell BK172.out 0).trans rfl, (blk_cell BK172.out 1).trans rfl, (blk_cell BK172.out 2).trans rfl, (blk_cell BK172.out 3).trans rfl, (blk_cell BK172.out 4).trans rfl⟩ (fun hHeld => ?_)
            clear hK K
            refine norm_ (a' := ?_) ?_ ?_
            rotate_left
            ·show Act.put _ (some 67) _ = _
             simp only [Act.put, List.setIfInBounds_toArray, List.set_cons_zero, List.set_cons_succ, i64_w, i32_w]
             rfl
            refine two_ (i := 4) (j := 8) (Ni := some 68) (Nj := some 72) #[true, true, true, true, true, true, true, true, false, false, false, false, false, false] #[true, true, true, true, false, true, true, true, true, false, false, false, false, false] rfl rfl rfl rfl (two_of HT_.out (by kernel_rfl)) (by decide) (by decide) (fun K hK => ?_) (fun K hK => ?_)
            ·skip
             refine Kd.R_append_rows_step (Kd.int .i64) (w0 := w) w.heap.size (by rfl) (.tmp 65) (.tmp 67) 28 3 (.int .i64 0) 8 rfl Try.underlying28 info3 rfl (by decide) (by omega) (.slice Ao48 x173003_1.length co48) x173003_1 y181 _ _ _ (fun k_ => some k_ ≠ (.slice Ao49 x173004_1.length co49 : Value).ownBlock ∧ some k_ ≠ (.slice Ao55 y181.length co55 : Value).ownBlock) (fun _ => False) rfl rfl ?aO ?aR (fun _ _ h => h) (fun _ h => h.elim) ?aF ?aB ?aS ?aL ?_
             (case aR => exact kc_ (Kd.R_reads' HO183.out).2.2)
             (case aB => exact bl_)
             (case aF => exact (fun k_ hk => ⟨fr_ HO_173004.out hk, fr_ HO183.out hk⟩))
             (case aO => exact (rs_ HO_173003.out))
             (case aS => exact (below_size bl_))
             (case aL => have := LMc41.out; omega)
             intro v185 w54 ho hb hg hat
             rw [← Ny184.out] at ho
             have HO186 := Aside0.mk (ho)
             replace HO_173004 := ra_ HO_173004.out hg hat
             replace BK165 := bg_ BK165.out hg (Kd.R_ne HO_173003.out BK165.out (by decide))
             replace BK166 := bg_ BK166.out hg (Kd.R_ne HO_173003.out BK166.out (by decide))
             replace BK172 := bg_ BK172.out hg (Kd.R_ne HO_173003.out BK172.out (by decide))
             replace BK176 := bg_ BK176.out hg (Kd.R_ne HO_173003.out BK176.out (by decide))
             replace HO183 := ra_ HO183.out hg hat
             replace HB := Aside0.mk (hb)
             clear HO_173003
             clear ho hb hg hat
             refine hK.out _ _ ⟨(blk_cell BK172.out 0).trans rfl, (blk_cell BK172.out 1).trans rfl, (blk_cell BK172.out 2).trans rfl, (blk_cell BK172.out 3).trans rfl, (blk_cell BK172.out 4).trans rfl⟩ (fun hHeld => ?_)
             clear hK K
             refine norm_ (a' := ?_) ?_ ?_
             rotate_left
             ·show Act.put _ (some 68) _ = _
              simp only [Act.put, List.setIfInBounds_toArray, List.set_cons_zero, List.set_cons_succ, i64_w, i32_w]
              rfl
             refine pure_ (i := 10) (N := some 74) (v := ?_) (a' := ?_) #[true, true, true, true, true, true, true, true, false, false, true, false, false, false] rfl rfl (any_of HT_.out (by kernel_rfl)) (fun _ _ _ h => h) (Or.inl ⟨by rfl, ?_⟩) ?_ ?_
             rotate_left
             ·intro w'
              go_simp
              with_reducible rfl
             rotate_left
             ·simp only [Act.put, List.setIfInBounds_toArray, List.set_cons_zero, List.set_cons_succ, i64_w, i32_w]
              rfl
             refine one_ (i := 8) (N := some 72) #[true, true, true, true, true, true, true, true, true, false, true, false, false, false] rfl rfl (one_of HT_.out (by kernel_rfl)) (by decide) (fun K hK => ?_)
             refine Kd.R_lit_step (Kd.int .i64) _ 3 ?hg (N := 72) ?hd (xs := ([t179] : List Int)) (inner := [.int .i64 t179]) (ok := fun _ => True) (okp := fun _ => True) ?hr ?hp (fun _ hk => hk) trivial (Below.refl _ _) (Nat.le_refl _) (by simp) ?_; (case hd => rfl); (case hg => rfl); (case hr => first | (go_simp; done) | (go_simp; rfl)); (case hp => exact (Reps.one (show Kd.M (Kd.int .i64) _ _ _ t179 [.int .i64 t179] from rfl) (Reps.none _ _)))
             intro v188 w56 ho57 hb hg_ hnew_
             clear hg_ hnew_
             (first | rw [← Ny187.out] at ho57 | (simp only [Int.reduceToNat] at ho57; rw [← Ny187.out] at ho57))
             have HO189 := rl0_ (rn_ (rn_ (rn_ ho57 HO_173004.out) HO183.out) HO186.out)
             replace HO_173004 := re_ HO_173004.out ho57 hb
             replace HO183 := re_ HO183.out ho57 hb
             replace HO186 := re_ HO186.out ho57 hb
             replace BK165 := bb_ BK165.out hb
             replace BK166 := bb_ BK166.out hb
             replace BK172 := bb_ BK172.out hb
             replace BK176 := bb_ BK176.out hb
             replace HB := hs_ hb
             clear hb ho57
             refine hK.out _ _ ⟨(blk_cell BK172.out 0).trans rfl, (blk_cell BK172.out 1).trans rfl, (blk_cell BK172.out 2).trans rfl, (blk_cell BK172.out 3).trans rfl, (blk_cell BK172.out 4).trans rfl⟩ (fun hHeld => ?_)
             clear hK K
             refine norm_ (a' := ?_) ?_ ?_
             rotate_left
             ·show Act.put _ (some 72) _ = _
              simp only [Act.put, List.setIfInBounds_toArray, List.set_cons_zero, List.set_cons_succ, i64_w, i32_w]
              rfl
             exact norm_ (by simp only [putAll, Act.put, List.setIfInBounds_toArray, List.set_cons_zero, List.set_cons_succ]) (hCont (.slice Ao55 y181.length co55, v185, v188) _ ⟨hHeld, (rs_ HO183.out), (rs_ HO186.out), (rs_ HO189.out), (rs_ HO_173004.out), (bq_ BK165.out), (bq_ BK166.out), (bq_ BK172.out), (bq_ BK176.out), bl_⟩)
            ·skip
             refine Kd.R_lit_step (Kd.int .i64) _ 3 ?hg (N := 72) ?hd (xs := ([t179] : List Int)) (inner := [.int .i64 t179]) (ok := fun _ => True) (okp := fun _ => True) ?hr ?hp (fun _ hk => hk) trivial (Below.refl _ _) (Nat.le_refl _) (by simp) ?_; (case hd => rfl); (case hg => rfl); (case hr => first | (go_simp; done) | (go_simp; rfl)); (case hp => exact (Reps.one (show Kd.M (Kd.int .i64) _ _ _ t179 [.int .i64 t179] from rfl) (Reps.none _ _)))
             intro v188 w54 ho55 hb hg_ hnew_
             clear hg_ hnew_
             (first | rw [← Ny187.out] at ho55 | (simp only [Int.reduceToNat] at ho55; rw [← Ny187.out] at ho55))
             have HO189 := rl0_ (rn_ (rn_ (rn_ ho55 HO_173003.out) HO_173004.out) HO183.out)
             replace HO_173003 := re_ HO_173003.out ho55 hb
             replace HO_173004 := re_ HO_173004.out ho55 hb
             replace HO183 := re_ HO183.out ho55 hb
             replace BK165 := bb_ BK165.out hb
             replace BK166 := bb_ BK166.out hb
             replace BK172 := bb_ BK172.out hb
             replace BK176 := bb_ BK176.out hb
             replace HB := hs_ hb
             clear hb ho55
             obtain ⟨Ao57, co57, eo57⟩ := Kd.R_slice HO183.out
             (first | subst eo57 | (injection eo57 with f1_ f2_ f3_; have f4_ := f1_.symm; have f5_ := f3_.symm; clear f1_ f2_ f3_; subst f4_; subst f5_))
             refine hK.out _ _ ⟨(blk_cell BK172.out 0).trans rfl, (blk_cell BK172.out 1).trans rfl, (blk_cell BK172.out 2).trans rfl, (blk_cell BK172.out 3).trans rfl, (blk_cell BK172.out 4).trans rfl⟩ (fun hHeld => ?_)
             clear hK K
             refine norm_ (a' := ?_) ?_ ?_
             rotate_left
             ·show Act.put _ (some 72) _ = _
              simp only [Act.put, List.setIfInBounds_toArray, List.set_cons_zero, List.set_cons_succ, i64_w, i32_w]
              rfl
             refine one_ (i := 4) (N := some 68) #[true, true, true, true, true, true, true, true, true, false, false, false, false, false] rfl rfl (one_of HT_.out (by kernel_rfl)) (by decide) (fun K hK => ?_)
             refine Kd.R_append_rows_step (Kd.int .i64) (w0 := w) w.heap.size (by rfl) (.tmp 65) (.tmp 67) 28 3 (.int .i64 0) 8 rfl Try.underlying28 info3 rfl (by decide) (by omega) (.slice Ao48 x173003_1.length co48) x173003_1 y181 _ _ _ (fun k_ => some k_ ≠ (.slice Ao49 x173004_1.length co49 : Value).ownBlock ∧ some k_ ≠ (.slice Ao57 y181.length co57 : Value).ownBlock ∧ some k_ ≠ (v188 : Value).ownBlock) (fun _ => False) rfl rfl ?aO ?aR (fun _ _ h => h) (fun _ h => h.elim) ?aF ?aB ?aS ?aL ?_
             (case aR => exact kc_ (Kd.R_reads' HO183.out).2.2)
             (case aB => exact bl_)
             (case aF => exact (fun k_ hk => ⟨fr_ HO_173004.out hk, fr_ HO183.out hk, fr_ HO189.out hk⟩))
             (case aO => exact (rs_ HO_173003.out))
             (case aS => exact (below_size bl_))
             (case aL => have := LMc41.out; omega)
             intro v185 w56 ho hb hg hat
             rw [← Ny184.out] at ho
             have HO186 := Aside0.mk (ho)
             replace HO_173004 := ra_ HO_173004.out hg hat
             replace BK165 := bg_ BK165.out hg (Kd.R_ne HO_173003.out BK165.out (by decide))
             replace BK166 := bg_ BK166.out hg (Kd.R_ne HO_173003.out BK166.out (by decide))
             replace BK172 := bg_ BK172.out hg (Kd.R_ne HO_173003.out BK172.out (by decide))
             replace BK176 := bg_ BK176.out hg (Kd.R_ne HO_173003.out BK176.out (by decide))
             replace HO183 := ra_ HO183.out hg hat
             replace HO189 := ra_ HO189.out hg hat
             replace HB := Aside0.mk (hb)
             clear HO_173003
             clear ho hb hg hat
             refine hK.out _ _ ⟨(blk_cell BK172.out 0).trans rfl, (blk_cell BK172.out 1).trans rfl, (blk_cell BK172.out 2).trans rfl, (blk_cell BK172.out 3).trans rfl, (blk_cell BK172.out 4).trans rfl⟩ (fun hHeld => ?_)
             clear hK K
             refine norm_ (a' := ?_) ?_ ?_
             rotate_left
             ·show Act.put _ (some 68) _ = _
              simp only [Act.put, List.setIfInBounds_toArray, List.set_cons_zero, List.set_cons_succ, i64_w, i32_w]
              rfl
             refine pure_ (i := 10) (N := some 74) (v := ?_) (a' := ?_) #[true, true, true, true, true, true, true, true, true, false, true, false, false, false] rfl rfl (any_of HT_.out (by kernel_rfl)) (fun _ _ _ h => h) (Or.inl ⟨by rfl, ?_⟩) ?_ ?_
             rotate_left
             ·intro w'
              go_simp
              with_reducible rfl
             rotate_left
             ·simp only [Act.put, List.setIfInBounds_toArray, List.set_cons_zero, List.set_cons_succ, i64_w, i32_w]
              rfl
             exact norm_ (by simp only [putAll, Act.put, List.setIfInBounds_toArray, List.set_cons_zero, List.set_cons_succ]) (hCont (.slice Ao57 y181.length co57, v185, v188) _ ⟨hHeld, (rs_ HO183.out), (rs_ HO186.out), (rs_ HO189.out), (rs_ HO_173004.out), (bq_ BK165.out), (bq_ BK166.out), (bq_ BK172.out), (bq_ BK176.out), bl_⟩)
           ·skip
            refine Kd.R_lit_step (Kd.int .i64) _ 3 ?hg (N := 72) ?hd (xs := ([t179] : List Int)) (inner := [.int .i64 t179]) (ok := fun _ => True) (okp := fun _ => True) ?hr ?hp (fun _ hk => hk) trivial (Below.refl _ _) (Nat.le_refl _) (by simp) ?_; (case hd => rfl); (case hg => rfl); (case hr => first | (go_simp; done) | (go_simp; rfl)); (case hp => exact (Reps.one (show Kd.M (Kd.int .i64) _ _ _ t179 [.int .i64 t179] from rfl) (Reps.none _ _)))
            intro v188 w52 ho53 hb hg_ hnew_
            clear hg_ hnew_
            (first | rw [← Ny187.out] at ho53 | (simp only [Int.reduceToNat] at ho53; rw [← Ny187.out] at ho53))
            have HO189 := rl0_ (rn_ (rn_ ho53 HO_173003.out) HO_173004.out)
            replace HO_173003 := re_ HO_173003.out ho53 hb
            replace HO_173004 := re_ HO_173004.out ho53 hb
            replace BK165 := bb_ BK165.out hb
            replace BK166 := bb_ BK166.out hb
            replace BK172 := bb_ BK172.out hb
            replace BK176 := bb_ BK176.out hb
            replace HB := hs_ hb
            clear hb ho53
            refine hK.out _ _ ⟨(blk_cell BK172.out 0).trans rfl, (blk_cell BK172.out 1).trans rfl, (blk_cell BK172.out 2).trans rfl, (blk_cell BK172.out 3).trans rfl, (blk_cell BK172.out 4).trans rfl⟩ (fun hHeld => ?_)
            clear hK K
            refine norm_ (a' := ?_) ?_ ?_
            rotate_left
            ·show Act.put _ (some 72) _ = _
             simp only [Act.put, List.setIfInBounds_toArray, List.set_cons_zero, List.set_cons_succ, i64_w, i32_w]
             rfl
            refine one_ (i := 3) (N := some 67) #[true, true, true, true, false, true, true, true, true, false, false, false, false, false] rfl rfl (one_of HT_.out (by kernel_rfl)) (by decide) (fun K hK => ?_)
            refine Kd.R_lit_step (Kd.int .i64) _ 3 ?hg (N := 67) ?hd (xs := ([t177] : List Int)) (inner := [.int .i64 t177]) (ok := fun _ => True) (okp := fun _ => True) ?hr ?hp (fun _ hk => hk) trivial (Below.refl _ _) (Nat.le_refl _) (by simp) ?_; (case hd => rfl); (case hg => rfl); (case hr => first | (go_simp; done) | (go_simp; rfl)); (case hp => exact (Reps.one (show Kd.M (Kd.int .i64) _ _ _ t177 [.int .i64 t177] from rfl) (Reps.none _ _)))
            intro v182 w54 ho55 hb hg_ hnew_
            clear hg_ hnew_
            (first | rw [← Ny181.out] at ho55 | (simp only [Int.reduceToNat] at ho55; rw [← Ny181.out] at ho55))
            have HO183 := rl0_ (rn_ (rn_ (rn_ ho55 HO_173003.out) HO_173004.out) HO189.out)
            replace HO_173003 := re_ HO_173003.out ho55 hb
            replace HO_173004 := re_ HO_173004.out ho55 hb
            replace HO189 := re_ HO189.out ho55 hb
            replace BK165 := bb_ BK165.out hb
            replace BK166 := bb_ BK166.out hb
            replace BK172 := bb_ BK172.out hb
            replace BK176 := bb_ BK176.out hb
            replace HB := hs_ hb
            clear hb ho55
            obtain ⟨Ao57, co57, eo57⟩ := Kd.R_slice HO183.out
            (first | subst eo57 | (injection eo57 with f1_ f2_ f3_; have f4_ := f1_.symm; have f5_ := f3_.symm; clear f1_ f2_ f3_; subst f4_; subst f5_))
            refine hK.out _ _ ⟨(blk_cell BK172.out 0).trans rfl, (blk_cell BK172.out 1).trans rfl, (blk_cell BK172.out 2).trans rfl, (blk_cell BK172.out 3).trans rfl, (blk_cell BK172.out 4).trans rfl⟩ (fun hHeld => ?_)
            clear hK K
            refine norm_ (a' := ?_) ?_ ?_
            rotate_left
            ·show Act.put _ (some 67) _ = _
             simp only [Act.put, List.setIfInBounds_toArray, List.set_cons_zero, List.set_cons_succ, i64_w, i32_w]
             rfl
            refine one_ (i := 4) (N := some 68) #[true, true, true, true, true, true, true, true, true, false, false, false, false, false] rfl rfl (one_of HT_.out (by kernel_rfl)) (by decide) (fun K hK => ?_)
            refine Kd.R_append_rows_step (Kd.int .i64) (w0 := w) w.heap.size (by rfl) (.tmp 65) (.tmp 67) 28 3 (.int .i64 0) 8 rfl Try.underlying28 info3 rfl (by decide) (by omega) (.slice Ao48 x173003_1.length co48) x173003_1 y181 _ _ _ (fun k_ => some k_ ≠ (.slice Ao49 x173004_1.length co49 : Value).ownBlock ∧ some k_ ≠ (v188 : Value).ownBlock ∧ some k_ ≠ (.slice Ao57 y181.length co57 : Value).ownBlock) (fun _ => False) rfl rfl ?aO ?aR (fun _ _ h => h) (fun _ h => h.elim) ?aF ?aB ?aS ?aL ?_
            (case aR => exact kc_ (Kd.R_reads' HO183.out).2.2)
            (case aB => exact bl_)
            (case aF => exact (fun k_ hk => ⟨fr_ HO_173004.out hk, fr_ HO189.out hk, fr_ HO183.out hk⟩))
            (case aO => exact (rs_ HO_173003.out))
            (case aS => exact (below_size bl_))
            (case aL => have := LMc41.out; omega)
            intro v185 w56 ho hb hg hat
            rw [← Ny184.out] at ho
            have HO186 := Aside0.mk (ho)
            replace HO_173004 := ra_ HO_173004.out hg hat
            replace BK165 := bg_ BK165.out hg (Kd.R_ne HO_173003.out BK165.out (by decide))
            replace BK166 := bg_ BK166.out hg (Kd.R_ne HO_173003.out BK166.out (by decide))
            replace BK172 := bg_ BK172.out hg (Kd.R_ne HO_173003.out BK172.out (by decide))
            replace BK176 := bg_ BK176.out hg (Kd.R_ne HO_173003.out BK176.out (by decide))
            replace HO189 := ra_ HO189.out hg hat
            replace HO183 := ra_ HO183.out hg hat
            replace HB := Aside0.mk (hb)
            clear HO_173003
            clear ho hb hg hat
            refine hK.out _ _ ⟨(blk_cell BK172.out 0).trans rfl, (blk_cell BK172.out 1).trans rfl, (blk_cell BK172.out 2).trans rfl, (blk_cell BK172.out 3).trans rfl, (blk_cell BK172.out 4).trans rfl⟩ (fun hHeld => ?_)
            clear hK K
            refine norm_ (a' := ?_) ?_ ?_
            rotate_left
            ·show Act.put _ (some 68) _ = _
             simp only [Act.put, List.setIfInBounds_toArray, List.set_cons_zero, List.set_cons_succ, i64_w, i32_w]
             rfl
            refine pure_ (i := 10) (N := some 74) (v := ?_) (a' := ?_) #[true, true, true, true, true, true, true, true, true, false, true, false, false, false] rfl rfl (any_of HT_.out (by kernel_rfl)) (fun _ _ _ h => h) (Or.inl ⟨by rfl, ?_⟩) ?_ ?_
            rotate_left
            ·intro w'
             go_simp
             with_reducible rfl
            rotate_left
            ·simp only [Act.put, List.setIfInBounds_toArray, List.set_cons_zero, List.set_cons_succ, i64_w, i32_w]
             rfl
            exact norm_ (by simp only [putAll, Act.put, List.setIfInBounds_toArray, List.set_cons_zero, List.set_cons_succ]) (hCont (.slice Ao57 y181.length co57, v185, v188) _ ⟨hHeld, (rs_ HO183.out), (rs_ HO186.out), (rs_ HO189.out), (rs_ HO_173004.out), (bq_ BK165.out), (bq_ BK166.out), (bq_ BK172.out), (bq_ BK176.out), bl_⟩)
          rintro ⟨v182, v185, v188⟩ w58 ⟨hS_, h0_, h1_, h2_, h3_, h4_, h5_, h6_, h7_, h8_⟩
          have HO183 : Aside0 (Kd.R (Kd.int .i64) 3 w58 w.heap.size (fun k_ => some k_ ≠ (v185 : Value).ownBlock ∧ some k_ ≠ (v188 : Value).ownBlock ∧ some k_ ≠ (.slice Ao49 x173004_1.length co49 : Value).ownBlock) v182 y181) := ⟨h0_⟩
          have HO186 : Aside0 (Kd.R (Kd.int .i64) 3 w58 w.heap.size (fun k_ => some k_ ≠ (v182 : Value).ownBlock ∧ some k_ ≠ (v188 : Value).ownBlock ∧ some k_ ≠ (.slice Ao49 x173004_1.length co49 : Value).ownBlock) v185 y184) := ⟨h1_⟩
          have HO189 : Aside0 (Kd.R (Kd.int .i64) 3 w58 w.heap.size (fun k_ => some k_ ≠ (v182 : Value).ownBlock ∧ some k_ ≠ (v185 : Value).ownBlock ∧ some k_ ≠ (.slice Ao49 x173004_1.length co49 : Value).ownBlock) v188 y187) := ⟨h2_⟩
          replace HO_173004 : Aside0 (Kd.R (Kd.int .i64) 3 w58 w.heap.size (fun k_ => some k_ ≠ (v182 : Value).ownBlock ∧ some k_ ≠ (v185 : Value).ownBlock ∧ some k_ ≠ (v188 : Value).ownBlock) (.slice Ao49 x173004_1.length co49) x173004_1) := ⟨h3_⟩
          replace BK165 : Aside0 (w58.heap[gb165]? = some (.cells #[.slice A0_0 l0_0.length c0_0, .slice (some ad175) l0_1.length c0_1] 25 (0, 0))) := ⟨h4_⟩
          replace BK166 : Aside0 (w58.heap[gb166]? = some (.cells #[.int .i64 0, .int .i64 0, .int .i64 0, .slice none 0 0, .slice none 0 0] 30 (0, 0))) := ⟨h5_⟩
          replace BK172 : Aside0 (w58.heap[gb172]? = some (.cells #[.int .i64 a1, .int .i64 a2, .int .i64 t173, .slice Ao48 x173003_1.length co48, .slice Ao49 x173004_1.length co49] 30 (0, 0))) := ⟨h6_⟩
          replace BK176 : Aside0 (w58.heap[gb176]? = some (.cells #[.int .i64 ((rd_T41 l0_1 x41_1).f0), .int .i64 ((rd_T41 l0_1 x41_1).f1), .int .i64 ((rd_T41 l0_1 x41_1).f2)] 41 (0, 0))) := ⟨h7_⟩
          replace HB : Aside0 (Below w.heap.size w w58) := ⟨h8_⟩
          clear HO_173003 h0_ h1_ h2_ h3_ h4_ h5_ h6_ h7_ h8_
          have hHeld : w58.cell? ⟨gb172, 0, none⟩ = some (.int .i64 a1) ∧ w58.cell? ⟨gb172, 1, none⟩ = some (.int .i64 a2) ∧ w58.cell? ⟨gb172, 2, none⟩ = some (.int .i64 t173) ∧ w58.cell? ⟨gb172, 3, none⟩ = some (.slice Ao48 x173003_1.length co48) ∧ w58.cell? ⟨gb172, 4, none⟩ = some (.slice Ao49 x173004_1.length co49) := hS_
          obtain ⟨Ao60, co60, eo60⟩ := Kd.R_slice HO189.out
          (first | subst eo60 | (injection eo60 with f1_ f2_ f3_; have f4_ := f1_.symm; have f5_ := f3_.symm; clear f1_ f2_ f3_; subst f4_; subst f5_))
          refine norm_ (a' := ?_) ?_ ?_
          rotate_left
          ·simp only [putAll, Act.put, List.setIfInBounds_toArray, List.set_cons_zero, List.set_cons_succ]
           rfl
          refine one_ (i := 9) (N := some 73) #[true, true, true, true, true, true, true, true, true, true, true, false, false, false] rfl rfl (one_of HT_.out (by kernel_rfl)) (by decide) (fun K hK => ?_)
          refine Kd.R_append_rows_step (Kd.int .i64) (w0 := w) w.heap.size (by rfl) (.tmp 70) (.tmp 72) 28 3 (.int .i64 0) 8 rfl Try.underlying28 info3 rfl (by decide) (by omega) (.slice Ao49 x173004_1.length co49) x173004_1 y187 _ _ _ (fun k_ => some k_ ≠ (v182 : Value).ownBlock ∧ some k_ ≠ (v185 : Value).ownBlock ∧ some k_ ≠ (.slice Ao60 y187.length co60 : Value).ownBlock) (fun _ => False) rfl rfl ?aO ?aR (fun _ _ h => h) (fun _ h => h.elim) ?aF ?aB ?aS ?aL ?_
          (case aR => exact kc_ (Kd.R_reads' HO189.out).2.2)
          (case aB => exact bl_)
          (case aF => exact (fun k_ hk => ⟨fr_ HO183.out hk, fr_ HO186.out hk, fr_ HO189.out hk⟩))
          (case aO => exact (rs_ HO_173004.out))
          (case aS => exact (below_size bl_))
          (case aL => have := LMc42.out; omega)
          intro v191 w59 ho hb hg hat
          rw [← Ny190.out] at ho
          have HO192 := Aside0.mk (ho)
          replace BK165 := bg_ BK165.out hg (Kd.R_ne HO_173004.out BK165.out (by decide))
          replace BK166 := bg_ BK166.out hg (Kd.R_ne HO_173004.out BK166.out (by decide))
          replace BK172 := bg_ BK172.out hg (Kd.R_ne HO_173004.out BK172.out (by decide))
          replace BK176 := bg_ BK176.out hg (Kd.R_ne HO_173004.out BK176.out (by decide))
          replace HO183 := ra_ HO183.out hg hat
          replace HO186 := ra_ HO186.out hg hat
          replace HO189 := ra_ HO189.out hg hat
          replace HB := Aside0.mk (hb)
          clear HO_173004
          clear ho hb hg hat
          obtain ⟨Ao61, co61, eo61⟩ := Kd.R_slice HO186.out
          (first | subst eo61 | (injection eo61 with f1_ f2_ f3_; have f4_ := f1_.symm; have f5_ := f3_.symm; clear f1_ f2_ f3_; subst f4_; subst f5_))
          obtain ⟨Ao63, co63, eo63⟩ := Kd.R_slice HO192.out
          (first | subst eo63 | (injection eo63 with f1_ f2_ f3_; have f4_ := f1_.symm; have f5_ := f3_.symm; clear f1_ f2_ f3_; subst f4_; subst f5_))
          refine hK.out _ _ ⟨(blk_cell BK172.out 0).trans rfl, (blk_cell BK172.out 1).trans rfl, (blk_cell BK172.out 2).trans rfl, (blk_cell BK172.out 3).trans rfl, (blk_cell BK172.out 4).trans rfl⟩ (fun hHeld => ?_)
          clear hK K
          refine norm_ (a' := ?_) ?_ ?_
          rotate_left
          ·show Act.put _ (some 73) _ = _
           simp only [Act.put, List.setIfInBounds_toArray, List.set_cons_zero, List.set_cons_succ, i64_w, i32_w]
           rfl
          refine last_ (i := 11) (N := none) #[true, true, true, true, true, true, true, true, true, true, true, true, false, false] rfl rfl (one_of HT_.out (by kernel_rfl)) (by decide) (fun K hK => ?_)
          have hs62 : w59.cell? ⟨gb172, 3, none⟩ = some (.slice Ao48 x173003_1.length co48) := (blk_cell BK172.out 3).trans rfl
          have hfs62 := blk_frozen BK172.out 3
          have hns62_0 := NB165_172.out
          have hns62_1 := NB166_172.out
          have hns62_3 := NB176_172.out
          have hms62_0 := NB172_165.out
          have hms62_1 := NB172_166.out
          have hms62_3 := NB172_176.out
          refine skip_ (w1 := ?_) (by rfl) rfl ?_ ?_
          rotate_left
          ·go_simp
           rfl
          refine hK.out _ _ ?_
          clear hK K
          refine pure_ (i := 12) (N := some 75) (v := ?_) (a' := ?_) #[true, true, true, true, true, true, true, true, true, true, true, true, true, false] rfl rfl (any_of HT_.out (by kernel_rfl)) (fun _ _ _ h => h) (Or.inl ⟨by rfl, ?_⟩) ?_ ?_
          rotate_left
          ·intro w'
           go_simp
           with_reducible rfl
          rotate_left
          ·simp only [Act.put, List.setIfInBounds_toArray, List.set_cons_zero, List.set_cons_succ, i64_w, i32_w]
           rfl
          refine last_ (i := 13) (N := none) #[true, true, true, true, true, true, true, true, true, true, true, true, true, true] rfl rfl (one_of HT_.out (by kernel_rfl)) (by decide) (fun K hK => ?_)
          have hs64 : w59.cell? ⟨gb172, 4, none⟩ = some (.slice Ao49 x173004_1.length co49) := (blk_cell BK172.out 4).trans rfl
          have hfs64 := blk_frozen BK172.out 4
          have hns64_0 := NB165_172.out
          have hns64_1 := NB166_172.out
          have hns64_3 := NB176_172.out
          have hms64_0 := NB172_165.out
          have hms64_1 := NB172_166.out
          have hms64_3 := NB172_176.out
          refine skip_ (w1 := ?_) (by rfl) rfl ?_ ?_
          rotate_left
          ·go_simp
           rfl
          refine hK.out _ _ ?_
          clear hK K
          refine done_ (done_of HT_.out (by kernel_rfl)) ?_
          try go_wp2
          go_roundg k1
          case measure => have := HK1.out; omega
          case rel => exact ⟨(wrap64 (x41_1 + 1)), (y184), (y190), (.slice Ao61 y184.length co61), (.slice Ao63 y190.length co63), sm_, H', ⟨by have := HK1.out; omega⟩, ⟨rs_ (ty_ HO186.out BK172.out)⟩, ⟨rs_ (ty_ HO192.out BK172.out)⟩, ⟨bf_ BK165.out⟩, ⟨bf_ BK166.out⟩, ⟨bp_ BK172.out⟩, ⟨bl_⟩⟩
         ·rw [if_neg c42] at H
          exact absurd H (by simp)
        ·rw [if_neg c41] at H
         exact absurd H (by simp)
       ·rw [if_neg c36] at H
        exact absurd H (by simp)
      ·rw [if_neg c35] at H
       exact absurd H (by simp)
     ·rw [if_neg c34] at H
      have c34b0 : decide (x41_1 < (l0_1.length : Int)) = false := decide_eq_false c34
      clear c34
      simp only [Option.some.injEq, Prod.mk.injEq] at H
      obtain ⟨rfl, rfl, rfl, rfl, rfl, rfl⟩ := H
      have hnb65 := NB172_165.out
      have hnc65 := NB165_172.out
      have hnb66 := NB172_166.out
      have hnc66 := NB166_172.out
      obtain ⟨hcz67_0, hcz67_1, hcz67_2, hcz67_3, hcz67_4, hfz67_0, hfz67_1, hfz67_2, hfz67_3, hfz67_4⟩ := c5_ BK172.out
      have hnb68 := NB166_165.out
      have hnc68 := NB165_166.out
      obtain ⟨hcz69_0, hcz69_1, hcz69_2, hcz69_3, hcz69_4, hfz69_0, hfz69_1, hfz69_2, hfz69_3, hfz69_4⟩ := c5_ BK166.out
      obtain ⟨Ao70, co70, eo70⟩ := Kd.R_slice HO_173003.out
      subst eo70
      obtain ⟨Ao71, co71, eo71⟩ := Kd.R_slice HO_173004.out
      subst eo71
      go_wp2
      refine bodyPost_ret (results_ct rfl _ _ gb166 30 #[.int .i64 a1, .int .i64 a2, .int .i64 t173, .slice Ao70 x173003_1.length co70, .slice Ao71 x173004_1.length co71] (0, 0) _ rfl (bp_ BK166.out) Try.underlying30 rfl (by kernel_rfl)) rfl ?_
      exact ⟨_, _, se_, by refine kr_ ?_; exact Kd.R_mono (rf5_ (Kd.R_types HO_173003.out BK166.out (by decide))) (fun _ hk => hk.1), by refine kr_ ?_; exact Kd.R_mono (rf5_ (Kd.R_types HO_173004.out BK166.out (by decide))) (fun _ hk => hk.1), bl_⟩
 ·replace c5 := Bool.eq_false_iff.mpr c5
  subst c5
  rw [if_neg (show ¬ (false = true) by decide)] at H
  simp only [Option.some.injEq, Prod.mk.injEq] at H
  obtain ⟨rfl, rfl, rfl, rfl, rfl, rfl⟩ := H
  go_enter Try.func14, Try.ntmps14
  go_wp2_with (first | ((with_reducible refine gate_dst (N := 3) rfl ?_); refine bx_ 3 #[.slice A0_0 l0_0.length c0_0, .slice A0_1 l0_1.length c0_1] 25 ?_; intro gb165 hg w72 hbox hb; have BK165 := Aside0.mk hbox; have GW165 := gs_ hg; have GE165 := gs_ hg; replace HB := hs_ hb; clear hb hbox hg) | ((with_reducible refine gate_dst (N := 6) rfl ?_); refine bx_ 6 #[.int .i64 0, .int .i64 0, .int .i64 0, .slice none 0 0, .slice none 0 0] 30 ?_; intro gb166 hg w73 hbox hb; have BK166 := Aside0.mk hbox; have GW166 := gs_ hg; have GE166 := gs_ hg; have NB165_166 := nl_ hg BK165.out; have NB166_165 := ng_ hg BK165.out; replace BK165 := bb_ BK165.out hb; replace HB := hs_ hb; clear hb hbox hg; have hnb74 := NB165_166.out; have hnc74 := NB166_165.out; obtain ⟨hcz75_0, hcz75_1, hfz75_0, hfz75_1⟩ := c2_ BK165.out) | ((with_reducible refine gate_callee (f := 12) rfl ?_); refine goesL_ (some 18) rfl rfl Try.func12 (by kernel_rfl) rfl #[.agg #[.slice A0_0 l0_0.length c0_0, .slice A0_1 l0_1.length c0_1]] rfl ga_ ?_; (with_reducible refine (withhold_Right.calls k _ _ l0_0 _ _ l0_1 false _ ?side1 ?side2 ?side3 ?side4 A4.out).mono ?_); (case side1 => exact kc_ (Kd.C_below HR0_0.out HB.out)); (case side2 => exact HC0_0.out); (case side3 => exact kc_ (Kd.C_below HR0_1.out HB.out)); (case side4 => exact HC0_1.out); rintro e w76 ⟨rfl, hb⟩; refine ⟨_, rfl, ?_⟩; replace BK165 := bb_ BK165.out hb; replace BK166 := bb_ BK166.out hb; replace HB := hs_ hb; (try clear hb); (try clear hb2); (try clear hk); (try clear hi); obtain ⟨hcz77_0, hcz77_1, hcz77_2, hcz77_3, hcz77_4, hfz77_0, hfz77_1, hfz77_2, hfz77_3, hfz77_4⟩ := c5_ BK166.out))
  refine bodyPost_ret (results_ct rfl _ _ gb166 30 #[.int .i64 0, .int .i64 0, .int .i64 0, .slice none 0 0, .slice none 0 0] (0, 0) _ rfl (bp_ BK166.out) Try.underlying30 rfl (by kernel_rfl)) rfl ?_
  exact ⟨_, _, se_, kn_, kn_, bl_⟩

end Go.Proofs.Ytocaneaofdbpoaa.PA
