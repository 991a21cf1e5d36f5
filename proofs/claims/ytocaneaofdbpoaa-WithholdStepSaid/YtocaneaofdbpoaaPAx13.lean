/- Contracts of the functions of the given program: written by wip/pmprint.py, a program of this session, which runs the print of the kit over altered functions. -/
import Derived.Test.YtocaneaofdbpoaaPAx0
import Derived.Test.YtocaneaofdbpoaaPAx12
namespace Go.Proofs.Ytocaneaofdbpoaa.PA
open Go.RowKit Go.Proofs.YtocaneaofdbpoaaW.PrintWords Go.Proofs.YtocaneaofdbpoaaW.PrintLast Go.Proofs.YtocaneaofdbpoaaW.PrintMore
attribute [local go_sem] max2_int min2_int max_two min_two max_three min_three max_four min_four   -- for this text's walks alone
set_option linter.unusedVariables false
set_option linter.unusedSimpArgs false

/-! ### paymasterref02_Mul: function 45 -/
mutual
def paymasterref02_Mul.l0 : Nat → List Int → Int → Bool → List Int → Bool → List Int → Option (Bool × List Int)
  | 0, _, _, _, _, _, _ => none
  | k + 1, x5, x6, x344000, x344001, x345000, x345001 => if x6 < (x344001.length : Int) then (paymasterref02_Mul.l1 k x5 x6 0 x344000 x344001 x345000 x345001) else (paymasterref02_Mul.l2 k x5 0 x344000 x344001 x345000 x345001)
def paymasterref02_Mul.l1 : Nat → List Int → Int → Int → Bool → List Int → Bool → List Int → Option (Bool × List Int)
  | 0, _, _, _, _, _, _, _ => none
  | k + 1, x5, x6, x7, x344000, x344001, x345000, x345001 => if x7 < (x345001.length : Int) then (if 0 ≤ (wrap64 (x6 + x7)) then (if (wrap64 (x6 + x7)) < (x5.length : Int) then (if 0 ≤ x6 then (if x6 < (x344001.length : Int) then (if 0 ≤ x7 then (paymasterref02_Mul.l1 k (x5.set ((wrap64 (x6 + x7)) : Int).toNat (wrap64 ((rd x5 (wrap64 (x6 + x7))) + (wrap64 ((rd x344001 x6) * (rd x345001 x7)))))) x6 (wrap64 (x7 + 1)) x344000 x344001 x345000 x345001) else (none)) else (none)) else (none)) else (none)) else (none)) else (paymasterref02_Mul.l0 k x5 (wrap64 (x6 + 1)) x344000 x344001 x345000 x345001)
def paymasterref02_Mul.l2 : Nat → List Int → Int → Bool → List Int → Bool → List Int → Option (Bool × List Int)
  | 0, _, _, _, _, _, _ => none
  | k + 1, x5, x8, x344000, x344001, x345000, x345001 => if (wrap64 (x8 + 1)) < (x5.length : Int) then (if 0 ≤ (wrap64 (x8 + 1)) then (if 0 ≤ x8 then (if x8 < (x5.length : Int) then ((some (x5.set ((wrap64 (x8 + 1)) : Int).toNat (wrap64 ((rd x5 (wrap64 (x8 + 1))) + (wrap64 (Int.tdiv (rd x5 x8) 10)))) : List Int)).bind fun y355 => (paymasterref02_Mul.l2 k (y355.set (x8 : Int).toNat (Int.tmod (rd y355 x8) 10)) (wrap64 (x8 + 1)) x344000 x344001 x345000 x345001)) else (none)) else (none)) else (none)) else ((paymasterref02_trim.f k x5).bind fun t358 => (if (x344000 != x345000) = true then (some (decide ((t358.length : Int) > 0), t358)) else (some (false, t358))))
end
def paymasterref02_Mul.f (k : Nat) (a0_0 : Bool) (l0_1 : List Int) (a1_0 : Bool) (l1_1 : List Int) : Option (Bool × List Int) := if 0 ≤ (wrap64 ((wrap64 ((l0_1.length : Int) + (l1_1.length : Int))) + 1)) then (if (wrap64 ((wrap64 ((l0_1.length : Int) + (l1_1.length : Int))) + 1) : Int).toNat ≤ 35184372088832 then (paymasterref02_Mul.l0 k (List.replicate (wrap64 ((wrap64 ((l0_1.length : Int) + (l1_1.length : Int))) + 1) : Int).toNat 0) 0 a0_0 l0_1 a1_0 l1_1) else (none)) else (none)
def paymasterref02_Mul.T8 : Bool × List (List Nat × List Nat) := (true, [([], []), ([], []), ([], []), ([1, 2], [1, 2]), ([0, 3], [0, 3]), ([4], [4]), ([], []), ([6], [6]), ([], []), ([7, 8], [7, 8]), ([9], [9]), ([], []), ([11], [11]), ([], []), ([12, 13], [12, 13]), ([14], [14]), ([10, 15], [10, 15]), ([5, 16], [5, 16]), ([0, 3, 0, 1, 2, 3, 4, 5, 6, 7, 8, 9, 10, 11, 12, 13, 14, 15, 16, 17], [0, 3]), ([18, 17, 0, 1, 2, 3, 4, 5, 6, 7, 8, 9, 10, 11, 12, 13, 14, 15, 16, 17], [17, 18])])
def paymasterref02_Mul.B8 : List Nat := [0, 0, 0, 6, 15, 31, 0, 64, 0, 448, 960, 0, 2048, 0, 14336, 30720, 65472, 131071, 262143, 524287]
theorem paymasterref02_Mul.tab8 : rtab .any (opsOf Try.f45 8) = paymasterref02_Mul.T8 := by kernel_rfl
theorem paymasterref02_Mul.bits8 : waitsOk paymasterref02_Mul.T8.2 paymasterref02_Mul.B8 = true := by kernel_rfl
def paymasterref02_Mul.T12 : Bool × List (List Nat × List Nat) := (true, [([], []), ([], []), ([1], [1]), ([0, 2], [0, 2]), ([3], [3]), ([], []), ([], []), ([5, 6], [5, 6]), ([7], [7]), ([8], [8]), ([4, 9], [4, 9]), ([0, 2, 0, 1, 2, 3, 4, 5, 6, 7, 8, 9, 10], [0, 2]), ([11, 10, 0, 1, 2, 3, 4, 5, 6, 7, 8, 9, 10], [10, 11])])
def paymasterref02_Mul.B12 : List Nat := [0, 0, 2, 7, 15, 0, 0, 96, 224, 480, 1023, 2047, 4095]
theorem paymasterref02_Mul.tab12 : rtab .any (opsOf Try.f45 12) = paymasterref02_Mul.T12 := by kernel_rfl
theorem paymasterref02_Mul.bits12 : waitsOk paymasterref02_Mul.T12.2 paymasterref02_Mul.B12 = true := by kernel_rfl
set_option maxHeartbeats 8000000 in
set_option maxRecDepth 100000 in
theorem paymasterref02_Mul.calls (k : Nat) (a0_0 : Bool) (A0_1 : Option Addr) (c0_1 : Nat) (l0_1 : List Int) (a1_0 : Bool) (A1_1 : Option Addr) (c1_1 : Nat) (l1_1 : List Int) (r1 : Bool) (r2 : List Int) (w : World) (hr0_1 : Kd.C (Kd.int .i64) w A0_1 l0_1.length l0_1) (hc0_1 : l0_1.length ≤ c0_1) (hr1_1 : Kd.C (Kd.int .i64) w A1_1 l1_1.length l1_1) (hc1_1 : l1_1.length ≤ c1_1) (h : paymasterref02_Mul.f k a0_0 l0_1 a1_0 l1_1 = some (r1, r2)) :
    Calls Try.prog 45 #[.agg #[.bool a0_0, .slice A0_1 l0_1.length c0_1], .agg #[.bool a1_0, .slice A1_1 l1_1.length c1_1]] w fun e w' => ∃ v1_ : Value, e = .returned (.agg #[.bool r1, v1_]) ∧ Kd.V (Kd.int .i64) 3 w' w.heap.size (fun k_ => (w.heap.size ≤ k_)) v1_ r2 ∧ Below w.heap.size w w' := by
 have hu87 := Try.underlying87
 have HR0_1 := Aside0.mk hr0_1
 have HC0_1 := Aside0.mk hc0_1
 clear hr0_1 hc0_1
 have HR1_1 := Aside0.mk hr1_1
 have HC1_1 := Aside0.mk hc1_1
 clear hr1_1 hc1_1
 have HB := Aside0.mk (Below.refl w.heap.size w)
 have H : (if 0 ≤ (wrap64 ((wrap64 ((l0_1.length : Int) + (l1_1.length : Int))) + 1)) then (if (wrap64 ((wrap64 ((l0_1.length : Int) + (l1_1.length : Int))) + 1) : Int).toNat ≤ 35184372088832 then (paymasterref02_Mul.l0 k (List.replicate (wrap64 ((wrap64 ((l0_1.length : Int) + (l1_1.length : Int))) + 1) : Int).toNat 0) 0 a0_0 l0_1 a1_0 l1_1) else (none)) else (none)) = some (r1, r2) := h
 clear h
 obtain ⟨ji3, hji3⟩ : ∃ j_ : Int, (wrap64 ((wrap64 ((l0_1.length : Int) + (l1_1.length : Int))) + 1)) = j_ := ⟨_, rfl⟩
 replace H : (if 0 ≤ (ji3) then (if (ji3 : Int).toNat ≤ 35184372088832 then (paymasterref02_Mul.l0 k (List.replicate (ji3 : Int).toNat 0) 0 a0_0 l0_1 a1_0 l1_1) else (none)) else (none)) = some (r1, r2) := by first | (rw [hji3] at H; exact H) | (simp only [hji3] at H ⊢; exact H)
 have hji3w : (IntKind.i64.wrap ((wrap64 ((l0_1.length : Int) + (l1_1.length : Int))) + 1)) = ji3 := (i64_w _).trans hji3
 by_cases c4 : 0 ≤ (ji3)
 ·rw [if_pos c4] at H
  have c4b0 := eq_true c4
  have c4b1 : decide (0 ≤ (ji3)) = true := decide_eq_true c4
  clear c4
  by_cases c5 : (ji3 : Int).toNat ≤ 35184372088832
  ·rw [if_pos c5] at H
   have c5b0 := eq_true c5
   have c5b1 : decide ((ji3 : Int).toNat ≤ 35184372088832) = true := decide_eq_true c5
   clear c5
   obtain ⟨y346, hy346⟩ : ∃ y_ : List Int, y_ = (List.replicate (ji3 : Int).toNat 0) := ⟨_, rfl⟩
   replace H : (paymasterref02_Mul.l0 k y346 0 a0_0 l0_1 a1_0 l1_1) = some (r1, r2) := by first | (rw [hy346]; with_reducible exact H) | (have H2_ := (Option.bind_some _ _).symm.trans H; rw [hy346]; with_reducible exact H2_) | (have H2_ := (Option.bind_some _ _).symm.trans H; with_reducible exact H2_) | with_reducible exact H | (rw [hy346]; exact H) | exact H
   have Ny346 := Aside0.mk hy346
   clear hy346
   have H' := Aside0.mk H
   clear H
   go_enter Try.func45, Try.ntmps45
   go_wp2_with (first | ((with_reducible refine gate_dst (N := 2) rfl ?_); (try (refine gate_guard (by rfl) ?_; dsimp only)); refine bx_ 2 #[.bool a0_0, .slice A0_1 l0_1.length c0_1] 87 ?_; intro gb343 hg w6 hbox hb; have BK343 := Aside0.mk hbox; have GW343 := gs_ hg; have GE343 := gs_ hg; replace HB := hs_ hb; clear hb hbox hg) | ((with_reducible refine gate_dst (N := 3) rfl ?_); (try (refine gate_guard (by rfl) ?_; dsimp only)); refine bx_ 3 #[.bool a1_0, .slice A1_1 l1_1.length c1_1] 87 ?_; intro gb344 hg w7 hbox hb; have BK344 := Aside0.mk hbox; have GW344 := gs_ hg; have GE344 := gs_ hg; have NB343_344 := nl_ hg BK343.out; have NB344_343 := ng_ hg BK343.out; replace BK343 := bb_ BK343.out hb; replace HB := hs_ hb; clear hb hbox hg) | ((with_reducible refine gate_dst (N := 4) rfl ?_); (try (refine gate_guard (by rfl) ?_; dsimp only)); refine bx_ 4 #[.bool false, .slice none 0 0] 87 ?_; intro gb345 hg w8 hbox hb; have BK345 := Aside0.mk hbox; have GW345 := gs_ hg; have GE345 := gs_ hg; have NB343_345 := nl_ hg BK343.out; have NB345_343 := ng_ hg BK343.out; have NB344_345 := nl_ hg BK344.out; have NB345_344 := ng_ hg BK344.out; replace BK343 := bb_ BK343.out hb; replace BK344 := bb_ BK344.out hb; replace HB := hs_ hb; clear hb hbox hg; have hnb9 := NB343_344.out; have hnc9 := NB344_343.out; have hnb10 := NB343_345.out; have hnc10 := NB345_343.out; obtain ⟨hcz11_0, hcz11_1, hfz11_0, hfz11_1⟩ := c2_ BK343.out; have hnb12 := NB344_345.out; have hnc12 := NB345_344.out; obtain ⟨hcz13_0, hcz13_1, hfz13_0, hfz13_1⟩ := c2_ BK344.out) | ((with_reducible refine gate_dst (N := 17) rfl ?_); (try (refine gate_guard (by rfl) ?_; dsimp only)); refine Kd.R_make (Kd.int .i64) _ 3 rfl (N := 17) rfl 28 _ _ rfl ji3 rfl rfl Try.underlying28 (.int .i64 0) 8 info3 rfl (by decide) (by omega) 0 (ok := fun _ => True) (okp := fun _ => True) rfl (fun _ hk => hk) trivial (od_) (Nat.le_trans (Nat.mul_le_mul_right _ (od_ : ji3.toNat ≤ 35184372088832)) (by omega)) (Below.refl _ _) (Nat.le_refl _) ?_; intro v347 w14 ho15 hb hg_ hnew_; clear hg_ hnew_; (first | rw [← Ny346.out] at ho15 | (simp only [Int.reduceToNat] at ho15; rw [← Ny346.out] at ho15)); have HO348 := Aside0.mk (Kd.R_lower (Kd.R_newM (M := fun k_ => (w.heap.size ≤ k_)) ho15 (below_size bl_) (fun k_ h_ => h_)) (below_size bl_)); replace BK343 := bb_ BK343.out hb; replace BK344 := bb_ BK344.out hb; replace BK345 := bb_ BK345.out hb; replace HB := hs_ hb; clear hb ho15))
   go_loopg [6] k (fun kq v6 w' => ∃ (x5_1 : List Int) (x6_1 : Int), v6 = .int .i64 x6_1 ∧ Aside0 (paymasterref02_Mul.l0 kq x5_1 x6_1 a0_0 l0_1 a1_0 l1_1 = some (r1, r2)) ∧ Aside0 (kq ≤ k) ∧ Aside0 (Kd.R (Kd.int .i64) 3 w' w.heap.size (fun k_ => (w.heap.size ≤ k_)) v347 x5_1) ∧ Aside0 (w'.heap[gb343]? = some (.cells #[.bool a0_0, (.slice A0_1 l0_1.length c0_1)] 87 (0, 0))) ∧ Aside0 (w'.heap[gb344]? = some (.cells #[.bool a1_0, (.slice A1_1 l1_1.length c1_1)] 87 (0, 0))) ∧ Aside0 (w'.heap[gb345]? = some (.cells #[.bool false, (.slice none 0 0)] 87 (0, 0))) ∧ Aside0 (Below w.heap.size w w'))
   case atStart => exact ⟨(y346), (0), sm_, H', ⟨Nat.le_refl _⟩, ⟨rs_ HO348.out⟩, ⟨bq_ BK343.out⟩, ⟨bq_ BK344.out⟩, ⟨bq_ BK345.out⟩, ⟨bl_⟩⟩
   case round =>
    clear H'
    try clear c4; try clear c4b0; try clear c4b1; try clear c5; try clear c5b0; try clear c5b1; try clear hcz11_0; try clear hcz11_1; try clear hcz13_0; try clear hcz13_1; try clear hfz11_0; try clear hfz11_1; try clear hfz13_0; try clear hfz13_1
    obtain ⟨x5_1, x6_1, rfl, HA, HK1, HO_5, BK343, BK344, BK345, HB⟩ := hrel
    cases gk with
    | zero => exact absurd HA.out (by simp [paymasterref02_Mul.l0])
    | succ k1 =>
     have H := HA.out
     clear HA
     simp only [paymasterref02_Mul.l0] at H
     by_cases c16 : x6_1 < (l0_1.length : Int)
     ·rw [if_pos c16] at H
      have c16b0 : decide (x6_1 < (l0_1.length : Int)) = true := decide_eq_true c16
      clear c16
      have H' := Aside0.mk H
      clear H
      have hnb17 := NB343_344.out
      have hnc17 := NB344_343.out
      have hnb18 := NB343_345.out
      have hnc18 := NB345_343.out
      obtain ⟨hcz19_0, hcz19_1, hfz19_0, hfz19_1⟩ := c2_ BK343.out
      go_wp2
      go_loopg [7] k1 (fun kq v7 w' => ∃ (x5_2 : List Int) (x7_2 : Int), v7 = .int .i64 x7_2 ∧ Aside0 (paymasterref02_Mul.l1 kq x5_2 x6_1 x7_2 a0_0 l0_1 a1_0 l1_1 = some (r1, r2)) ∧ Aside0 (kq ≤ k1) ∧ Aside0 (Kd.R (Kd.int .i64) 3 w' w.heap.size (fun k_ => (w.heap.size ≤ k_)) v347 x5_2) ∧ Aside0 (w'.heap[gb343]? = some (.cells #[.bool a0_0, (.slice A0_1 l0_1.length c0_1)] 87 (0, 0))) ∧ Aside0 (w'.heap[gb344]? = some (.cells #[.bool a1_0, (.slice A1_1 l1_1.length c1_1)] 87 (0, 0))) ∧ Aside0 (w'.heap[gb345]? = some (.cells #[.bool false, (.slice none 0 0)] 87 (0, 0))) ∧ Aside0 (Below w.heap.size w w'))
      case atStart => exact ⟨(x5_1), (0), sm_, H', ⟨Nat.le_refl _⟩, ⟨rs_ HO_5.out⟩, ⟨bq_ BK343.out⟩, ⟨bq_ BK344.out⟩, ⟨bq_ BK345.out⟩, ⟨bl_⟩⟩
      case round =>
       clear H'
       try clear c4; try clear c4b0; try clear c4b1; try clear c5; try clear c5b0; try clear c5b1; try clear c16; try clear c16b0; try clear hcz11_0; try clear hcz11_1; try clear hcz13_0; try clear hcz13_1; try clear hcz19_0; try clear hcz19_1; try clear hfz11_0; try clear hfz11_1; try clear hfz13_0; try clear hfz13_1; try clear hfz19_0; try clear hfz19_1
       obtain ⟨x5_2, x7_2, rfl, HA, HK2, HO_5, BK343, BK344, BK345, HB⟩ := hrel
       cases gk with
       | zero => exact absurd HA.out (by simp [paymasterref02_Mul.l1])
       | succ k2 =>
        have H := HA.out
        clear HA
        simp only [paymasterref02_Mul.l1] at H
        by_cases c20 : x7_2 < (l1_1.length : Int)
        ·rw [if_pos c20] at H
         have c20b0 : decide (x7_2 < (l1_1.length : Int)) = true := decide_eq_true c20
         clear c20
         obtain ⟨ji21, hji21⟩ : ∃ j_ : Int, (wrap64 (x6_1 + x7_2)) = j_ := ⟨_, rfl⟩
         replace H : (if 0 ≤ (ji21) then (if (ji21) < (x5_2.length : Int) then (if 0 ≤ x6_1 then (if x6_1 < (l0_1.length : Int) then (if 0 ≤ x7_2 then (paymasterref02_Mul.l1 k2 (x5_2.set ((ji21) : Int).toNat (wrap64 ((rd x5_2 (ji21)) + (wrap64 ((rd l0_1 x6_1) * (rd l1_1 x7_2)))))) x6_1 (wrap64 (x7_2 + 1)) a0_0 l0_1 a1_0 l1_1) else (none)) else (none)) else (none)) else (none)) else (none)) = some (r1, r2) := by first | (rw [hji21] at H; exact H) | (simp only [hji21] at H ⊢; exact H)
         have hji21w : (IntKind.i64.wrap (x6_1 + x7_2)) = ji21 := (i64_w _).trans hji21
         by_cases c22 : 0 ≤ (ji21)
         ·rw [if_pos c22] at H
          have c22b0 : decide (0 ≤ (ji21)) = true := decide_eq_true c22
          clear c22
          by_cases c23 : (ji21) < (x5_2.length : Int)
          ·rw [if_pos c23] at H
           have c23b0 : decide ((ji21) < (x5_2.length : Int)) = true := decide_eq_true c23
           clear c23
           by_cases c24 : 0 ≤ x6_1
           ·rw [if_pos c24] at H
            have c24b0 : decide (0 ≤ x6_1) = true := decide_eq_true c24
            clear c24
            by_cases c25 : x6_1 < (l0_1.length : Int)
            ·rw [if_pos c25] at H
             have c25b0 : decide (x6_1 < (l0_1.length : Int)) = true := decide_eq_true c25
             clear c25
             by_cases c26 : 0 ≤ x7_2
             ·rw [if_pos c26] at H
              have c26b0 : decide (0 ≤ x7_2) = true := decide_eq_true c26
              clear c26
              obtain ⟨y352, hy352⟩ : ∃ y_ : List Int, y_ = (x5_2.set ((ji21) : Int).toNat (wrap64 ((rd x5_2 (ji21)) + (wrap64 ((rd l0_1 x6_1) * (rd l1_1 x7_2)))))) := ⟨_, rfl⟩
              replace H : (paymasterref02_Mul.l1 k2 y352 x6_1 (wrap64 (x7_2 + 1)) a0_0 l0_1 a1_0 l1_1) = some (r1, r2) := by first | (rw [hy352]; with_reducible exact H) | (have H2_ := (Option.bind_some _ _).symm.trans H; rw [hy352]; with_reducible exact H2_) | (have H2_ := (Option.bind_some _ _).symm.trans H; with_reducible exact H2_) | with_reducible exact H | (rw [hy352]; exact H) | exact H
              have Ny352 := Aside0.mk hy352
              clear hy352
              have H' := Aside0.mk H
              clear H
              have hnb28 := NB344_343.out
              have hnc28 := NB343_344.out
              have hnb29 := NB344_345.out
              have hnc29 := NB345_344.out
              obtain ⟨hcz30_0, hcz30_1, hfz30_0, hfz30_1⟩ := c2_ BK344.out
              try go_wp2
              replace HO_5 := Aside0.mk (Kd.R_drew HO_5.out)
              replace BK343 := Aside0.mk (blk_drew BK343.out)
              replace BK344 := Aside0.mk (blk_drew BK344.out)
              replace BK345 := Aside0.mk (blk_drew BK345.out)
              replace HB := Aside0.mk (below_drew1 HB.out)
              obtain ⟨Ao32, co32, eo32⟩ := Kd.R_slice HO_5.out
              (first | subst eo32 | (injection eo32 with f1_ f2_ f3_; have f4_ := f1_.symm; have f5_ := f3_.symm; clear f1_ f2_ f3_; subst f4_; subst f5_))
              have p349 : 0 ≤ ((ji21) : Int) := od_
              have q349 : (ji21) < (x5_2.length : Int) := od_
              obtain ⟨ad349, e349, hx349_0⟩ := Kd.at_int (Kd.R_reads' HO_5.out).2.2 (ji21) p349 q349
              cases e349
              replace p349 := eq_true p349
              replace q349 := eq_true q349
              have p350 : 0 ≤ (x6_1 : Int) := od_
              have q350 : x6_1 < (l0_1.length : Int) := od_
              obtain ⟨ad350, e350, hx350_0⟩ := Kd.at_int HR0_1.out x6_1 p350 q350
              have hw350_0 := hx350_0
              cases e350
              replace hx350_0 := (HB.out.cell (World.block_lt_of_cell? w _ hx350_0)).trans hx350_0
              replace p350 := eq_true p350
              replace q350 := eq_true q350
              have p351 : 0 ≤ (x7_2 : Int) := od_
              have q351 : x7_2 < (l1_1.length : Int) := od_
              obtain ⟨ad351, e351, hx351_0⟩ := Kd.at_int HR1_1.out x7_2 p351 q351
              have hw351_0 := hx351_0
              cases e351
              replace hx351_0 := (HB.out.cell (World.block_lt_of_cell? w _ hx351_0)).trans hx351_0
              replace p351 := eq_true p351
              replace q351 := eq_true q351
              have p27 : 0 ≤ ((ji21) : Int) := od_
              have q27 : ((ji21) : Int) < ((x5_2.length : Int) : Int) := od_
              obtain ⟨go27, co27, eo27, gb27, gl27, cl27, HG27⟩ := Kd.R_form HO_5.out (by omega)
              (first | cases eo27 | (injection eo27 with ea_ en_ ec_; (first | subst ea_ | (injection ea_ with ea_; subst ea_)); subst ec_; clear en_))
              have GB27 := Aside0.mk gb27
              have GG27 := Aside0.mk HG27
              clear gb27 gl27 HG27
              (first | simp only [add_plain] at hx349_0 | skip)
              obtain ⟨hx27_0, hf27_0⟩ := Kd.R_celln 0 HO_5.out ((ji21) : Int) p27 q27
              replace p27 := eq_true p27
              replace q27 := eq_true q27
              have HP33 := Kd.R_putn HO_5.out ((ji21) : Int) (wrap64 ((rd x5_2 (ji21)) + (wrap64 ((rd l0_1 x6_1) * (rd l1_1 x7_2)))))
              rw [← Ny352.out] at HP33
              have HQ33 := Aside0.mk HP33
              clear HP33
              refine start_ (n := 20) (S := fun w' => w'.cell? ⟨gb343, 0, none⟩ = some (.bool a0_0) ∧ w'.cell? ⟨gb343, 1, none⟩ = some (.slice (some ad350) l0_1.length c0_1) ∧ w'.cell? ⟨gb344, 0, none⟩ = some (.bool a1_0) ∧ w'.cell? ⟨gb344, 1, none⟩ = some (.slice (some ad351) l1_1.length c1_1) ∧ w'.cell? ⟨go27, ((ji21)).toNat, none⟩ = some (.int .i64 (rd x5_2 (ji21))) ∧ w'.cell? (ad350.add (x6_1).toNat) = some (.int .i64 (rd l0_1 x6_1)) ∧ w'.cell? (ad351.add (x7_2).toNat) = some (.int .i64 (rd l1_1 x7_2))) (ds := [19]) #[false, false, false, false, false, false, false, false, false, false, false, false, false, false, false, false, false, false, false, false] (by kernel_rfl) rfl rfl ⟨(blk_cell BK343.out 0).trans rfl, (blk_cell BK343.out 1).trans rfl, (blk_cell BK344.out 0).trans rfl, (blk_cell BK344.out 1).trans rfl, hx349_0, ((HB.out.cell (World.block_lt_of_cell? w _ hw350_0)).trans hw350_0), ((HB.out.cell (World.block_lt_of_cell? w _ hw351_0)).trans hw351_0)⟩ (fun hHeld => ?_); refine with_tabW paymasterref02_Mul.tab8 paymasterref02_Mul.bits8 (fun HT_ HW_ => ?_)
              generalize wr.drew = w31 at HO_5 BK343 BK344 BK345 HB GG27 HQ33 hf27_0 hx27_0 hx349_0 hx350_0 hx351_0 hHeld ⊢
              refine pure_ (i := 0) (N := some 32) (v := ?_) (a' := ?_) #[true, false, false, false, false, false, false, false, false, false, false, false, false, false, false, false, false, false, false, false] rfl rfl (any_of HT_.out (by kernel_rfl)) (fun _ _ _ h => h) (Or.inl ⟨by rfl, ?_⟩) ?_ ?_
              rotate_left
              ·intro w'
               go_simp
               with_reducible rfl
              rotate_left
              ·simp only [Act.put, List.setIfInBounds_toArray, List.set_cons_zero, List.set_cons_succ, i64_w, i32_w]
               rfl
              refine pure_ (i := 1) (N := some 33) (v := ?_) (a' := ?_) #[true, true, false, false, false, false, false, false, false, false, false, false, false, false, false, false, false, false, false, false] rfl rfl (any_of HT_.out (by kernel_rfl)) (fun _ _ _ h => h) (Or.inl ⟨by rfl, ?_⟩) ?_ ?_
              rotate_left
              ·intro w'
               go_simp
               with_reducible rfl
              rotate_left
              ·simp only [Act.put, List.setIfInBounds_toArray, List.set_cons_zero, List.set_cons_succ, i64_w, i32_w]
               rfl
              refine pure_ (i := 2) (N := some 34) (v := ?_) (a' := ?_) #[true, true, true, false, false, false, false, false, false, false, false, false, false, false, false, false, false, false, false, false] rfl rfl (any_of HT_.out (by kernel_rfl)) (fun _ _ _ h => h) (Or.inl ⟨by rfl, ?_⟩) ?_ ?_
              rotate_left
              ·intro w'
               go_simp
               with_reducible rfl
              rotate_left
              ·simp only [Act.put, List.setIfInBounds_toArray, List.set_cons_zero, List.set_cons_succ, i64_w, i32_w]
               rfl
              refine pure_ (i := 3) (N := some 35) (v := ?_) (a' := ?_) #[true, true, true, true, false, false, false, false, false, false, false, false, false, false, false, false, false, false, false, false] rfl rfl (any_of HT_.out (by kernel_rfl)) (fun _ _ _ h => h) (Or.inl ⟨by rfl, ?_⟩) ?_ ?_
              rotate_left
              ·intro w'
               go_simp
               with_reducible rfl
              rotate_left
              ·simp only [Act.put, List.setIfInBounds_toArray, List.set_cons_zero, List.set_cons_succ, i64_w, i32_w]
               rfl
              refine pure_ (i := 4) (N := some 36) (v := ?_) (a' := ?_) #[true, true, true, true, true, false, false, false, false, false, false, false, false, false, false, false, false, false, false, false] rfl rfl (any_of HT_.out (by kernel_rfl)) (fun _ _ _ h => h) (Or.inl ⟨by rfl, ?_⟩) ?_ ?_
              rotate_left
              ·intro w'
               go_simp
               with_reducible rfl
              rotate_left
              ·simp only [Act.put, List.setIfInBounds_toArray, List.set_cons_zero, List.set_cons_succ, i64_w, i32_w]
               rfl
              refine pure_ (i := 6) (N := some 38) (v := ?_) (a' := ?_) #[true, true, true, true, true, false, true, false, false, false, false, false, false, false, false, false, false, false, false, false] rfl rfl (any_of HT_.out (by kernel_rfl)) (fun _ _ _ h => h) (Or.inl ⟨by rfl, ?_⟩) ?_ ?_
              rotate_left
              ·intro w'
               go_simp
               with_reducible rfl
              rotate_left
              ·simp only [Act.put, List.setIfInBounds_toArray, List.set_cons_zero, List.set_cons_succ, i64_w, i32_w]
               rfl
              refine pure_ (i := 8) (N := some 40) (v := ?_) (a' := ?_) #[true, true, true, true, true, false, true, false, true, false, false, false, false, false, false, false, false, false, false, false] rfl rfl (any_of HT_.out (by kernel_rfl)) (fun _ _ _ h => h) (Or.inl ⟨by rfl, ?_⟩) ?_ ?_
              rotate_left
              ·intro w'
               go_simp
               with_reducible rfl
              rotate_left
              ·simp only [Act.put, List.setIfInBounds_toArray, List.set_cons_zero, List.set_cons_succ, i64_w, i32_w]
               rfl
              refine pure_ (i := 11) (N := some 43) (v := ?_) (a' := ?_) #[true, true, true, true, true, false, true, false, true, false, false, true, false, false, false, false, false, false, false, false] rfl rfl (any_of HT_.out (by kernel_rfl)) (fun _ _ _ h => h) (Or.inl ⟨by rfl, ?_⟩) ?_ ?_
              rotate_left
              ·intro w'
               go_simp
               with_reducible rfl
              rotate_left
              ·simp only [Act.put, List.setIfInBounds_toArray, List.set_cons_zero, List.set_cons_succ, i64_w, i32_w]
               rfl
              refine pure_ (i := 13) (N := some 45) (v := ?_) (a' := ?_) #[true, true, true, true, true, false, true, false, true, false, false, true, false, true, false, false, false, false, false, false] rfl rfl (any_of HT_.out (by kernel_rfl)) (fun _ _ _ h => h) (Or.inl ⟨by rfl, ?_⟩) ?_ ?_
              rotate_left
              ·intro w'
               go_simp
               with_reducible rfl
              rotate_left
              ·simp only [Act.put, List.setIfInBounds_toArray, List.set_cons_zero, List.set_cons_succ, i64_w, i32_w]
               rfl
              refine take_ (i := 5) (N := some 37) (v := ?_) (a' := ?_) #[true, true, true, true, true, true, true, false, true, false, false, true, false, true, false, false, false, false, false, false] rfl rfl (take_ofW HT_.out HW_.out (by kernel_rfl)) (fun _ _ _ h => h) (Or.inl ⟨by rfl, ?_⟩) hHeld ?_ ?_
              rotate_left
              ·rintro w' ⟨s0, s1, s2, s3, s4, s5, s6⟩
               go_simp
               with_reducible rfl
              rotate_left
              ·simp only [Act.put, List.setIfInBounds_toArray, List.set_cons_zero, List.set_cons_succ, i64_w, i32_w]
               rfl
              refine take_ (i := 7) (N := some 39) (v := ?_) (a' := ?_) #[true, true, true, true, true, true, true, true, true, false, false, true, false, true, false, false, false, false, false, false] rfl rfl (take_ofW HT_.out HW_.out (by kernel_rfl)) (fun _ _ _ h => h) (Or.inl ⟨by rfl, ?_⟩) hHeld ?_ ?_
              rotate_left
              ·rintro w' ⟨s0, s1, s2, s3, s4, s5, s6⟩
               go_simp
               with_reducible rfl
              rotate_left
              ·simp only [Act.put, List.setIfInBounds_toArray, List.set_cons_zero, List.set_cons_succ, i64_w, i32_w]
               rfl
              refine pure_ (i := 9) (N := some 41) (v := ?_) (a' := ?_) #[true, true, true, true, true, true, true, true, true, true, false, true, false, true, false, false, false, false, false, false] rfl rfl (any_of HT_.out (by kernel_rfl)) (fun _ _ _ h => h) (Or.inl ⟨by rfl, ?_⟩) ?_ ?_
              rotate_left
              ·intro w'
               go_simp
               with_reducible rfl
              rotate_left
              ·simp only [Act.put, List.setIfInBounds_toArray, List.set_cons_zero, List.set_cons_succ, i64_w, i32_w]
               rfl
              refine take_ (i := 10) (N := some 42) (v := ?_) (a' := ?_) #[true, true, true, true, true, true, true, true, true, true, true, true, false, true, false, false, false, false, false, false] rfl rfl (take_ofW HT_.out HW_.out (by kernel_rfl)) (fun _ _ _ h => h) (Or.inl ⟨by rfl, ?_⟩) hHeld ?_ ?_
              rotate_left
              ·rintro w' ⟨s0, s1, s2, s3, s4, s5, s6⟩
               go_simp
               with_reducible rfl
              rotate_left
              ·simp only [Act.put, List.setIfInBounds_toArray, List.set_cons_zero, List.set_cons_succ, i64_w, i32_w]
               rfl
              refine take_ (i := 12) (N := some 44) (v := ?_) (a' := ?_) #[true, true, true, true, true, true, true, true, true, true, true, true, true, true, false, false, false, false, false, false] rfl rfl (take_ofW HT_.out HW_.out (by kernel_rfl)) (fun _ _ _ h => h) (Or.inl ⟨by rfl, ?_⟩) hHeld ?_ ?_
              rotate_left
              ·rintro w' ⟨s0, s1, s2, s3, s4, s5, s6⟩
               go_simp
               with_reducible rfl
              rotate_left
              ·simp only [Act.put, List.setIfInBounds_toArray, List.set_cons_zero, List.set_cons_succ, i64_w, i32_w]
               rfl
              refine pure_ (i := 14) (N := some 46) (v := ?_) (a' := ?_) #[true, true, true, true, true, true, true, true, true, true, true, true, true, true, true, false, false, false, false, false] rfl rfl (any_of HT_.out (by kernel_rfl)) (fun _ _ _ h => h) (Or.inl ⟨by rfl, ?_⟩) ?_ ?_
              rotate_left
              ·intro w'
               go_simp
               with_reducible rfl
              rotate_left
              ·simp only [Act.put, List.setIfInBounds_toArray, List.set_cons_zero, List.set_cons_succ, i64_w, i32_w]
               rfl
              refine take_ (i := 15) (N := some 47) (v := ?_) (a' := ?_) #[true, true, true, true, true, true, true, true, true, true, true, true, true, true, true, true, false, false, false, false] rfl rfl (take_ofW HT_.out HW_.out (by kernel_rfl)) (fun _ _ _ h => h) (Or.inl ⟨by rfl, ?_⟩) hHeld ?_ ?_
              rotate_left
              ·rintro w' ⟨s0, s1, s2, s3, s4, s5, s6⟩
               go_simp
               with_reducible rfl
              rotate_left
              ·simp only [Act.put, List.setIfInBounds_toArray, List.set_cons_zero, List.set_cons_succ, i64_w, i32_w]
               rfl
              refine pure_ (i := 16) (N := some 48) (v := ?_) (a' := ?_) #[true, true, true, true, true, true, true, true, true, true, true, true, true, true, true, true, true, false, false, false] rfl rfl (any_of HT_.out (by kernel_rfl)) (fun _ _ _ h => h) (Or.inl ⟨by rfl, ?_⟩) ?_ ?_
              rotate_left
              ·intro w'
               go_simp
               with_reducible rfl
              rotate_left
              ·simp only [Act.put, List.setIfInBounds_toArray, List.set_cons_zero, List.set_cons_succ, i64_w, i32_w]
               rfl
              refine pure_ (i := 17) (N := some 49) (v := ?_) (a' := ?_) #[true, true, true, true, true, true, true, true, true, true, true, true, true, true, true, true, true, true, false, false] rfl rfl (any_of HT_.out (by kernel_rfl)) (fun _ _ _ h => h) (Or.inl ⟨by rfl, ?_⟩) ?_ ?_
              rotate_left
              ·intro w'
               go_simp
               with_reducible rfl
              rotate_left
              ·simp only [Act.put, List.setIfInBounds_toArray, List.set_cons_zero, List.set_cons_succ, i64_w, i32_w]
               rfl
              refine pure_ (i := 18) (N := some 50) (v := ?_) (a' := ?_) #[true, true, true, true, true, true, true, true, true, true, true, true, true, true, true, true, true, true, true, false] rfl rfl (any_of HT_.out (by kernel_rfl)) (fun _ _ _ h => h) (Or.inl ⟨by rfl, ?_⟩) ?_ ?_
              rotate_left
              ·intro w'
               go_simp
               with_reducible rfl
              rotate_left
              ·simp only [Act.put, List.setIfInBounds_toArray, List.set_cons_zero, List.set_cons_succ, i64_w, i32_w]
               rfl
              refine last_ (i := 19) (N := none) #[true, true, true, true, true, true, true, true, true, true, true, true, true, true, true, true, true, true, true, true] rfl rfl (one_of HT_.out (by kernel_rfl)) (by decide) (fun K hK => ?_)
              refine skip_ (w1 := ?_) (by rfl) rfl ?_ ?_
              rotate_left
              ·go_simp
               rfl
              refine hK.out _ _ ?_
              clear hK K
              refine done_ (done_of HT_.out (by kernel_rfl)) ?_
              try go_wp2
              go_roundg k2
              case measure => have := HK1.out; have := HK2.out; omega
              case rel => exact ⟨(y352), (wrap64 (x7_2 + 1)), sm_, H', ⟨by have := HK1.out; have := HK2.out; omega⟩, ⟨by refine kr_ ?_; exact HQ33.out⟩, ⟨by refine bq_ ?_; refine blk_far ?_ (by have h_ := Kd.R_ne HO_5.out BK343.out (by decide); intro e_; exact h_ (by rw [e_]; rfl)) _; refine bq_ ?_; exact BK343.out⟩, ⟨by refine bq_ ?_; refine blk_far ?_ (by have h_ := Kd.R_ne HO_5.out BK344.out (by decide); intro e_; exact h_ (by rw [e_]; rfl)) _; refine bq_ ?_; exact BK344.out⟩, ⟨by refine bq_ ?_; refine blk_far ?_ (by have h_ := Kd.R_ne HO_5.out BK345.out (by decide); intro e_; exact h_ (by rw [e_]; rfl)) _; refine bq_ ?_; exact BK345.out⟩, ⟨by repeat (first | (with_reducible first | exact HB.out | apply below_alloc | apply pw_below_drewN | apply below_drew1 | refine below_set ?_ GB27.out | refine below_set ?_ GE343.out | refine below_set ?_ GE344.out | refine below_set ?_ GE345.out) | exact HB.out)⟩⟩
             ·rw [if_neg c26] at H
              exact absurd H (by simp)
            ·rw [if_neg c25] at H
             exact absurd H (by simp)
           ·rw [if_neg c24] at H
            exact absurd H (by simp)
          ·rw [if_neg c23] at H
           exact absurd H (by simp)
         ·rw [if_neg c22] at H
          exact absurd H (by simp)
        ·rw [if_neg c20] at H
         have c20b0 : decide (x7_2 < (l1_1.length : Int)) = false := decide_eq_false c20
         clear c20
         have H' := Aside0.mk H
         clear H
         have hnb34 := NB344_343.out
         have hnc34 := NB343_344.out
         have hnb35 := NB344_345.out
         have hnc35 := NB345_344.out
         obtain ⟨hcz36_0, hcz36_1, hfz36_0, hfz36_1⟩ := c2_ BK344.out
         go_wp2
         go_roundg k2
         case measure => have := HK1.out; have := HK2.out; omega
         case rel => exact ⟨(x5_2), (wrap64 (x6_1 + 1)), sm_, H', ⟨by have := HK1.out; have := HK2.out; omega⟩, ⟨rs_ HO_5.out⟩, ⟨bq_ BK343.out⟩, ⟨bq_ BK344.out⟩, ⟨bq_ BK345.out⟩, ⟨bl_⟩⟩
     ·rw [if_neg c16] at H
      have c16b0 : decide (x6_1 < (l0_1.length : Int)) = false := decide_eq_false c16
      clear c16
      have H' := Aside0.mk H
      clear H
      have hnb37 := NB343_344.out
      have hnc37 := NB344_343.out
      have hnb38 := NB343_345.out
      have hnc38 := NB345_343.out
      obtain ⟨hcz39_0, hcz39_1, hfz39_0, hfz39_1⟩ := c2_ BK343.out
      go_wp2
      go_loopg [8] k1 (fun kq v8 w' => ∃ (x5_2 : List Int) (x8_2 : Int), v8 = .int .i64 x8_2 ∧ Aside0 (paymasterref02_Mul.l2 kq x5_2 x8_2 a0_0 l0_1 a1_0 l1_1 = some (r1, r2)) ∧ Aside0 (kq ≤ k1) ∧ Aside0 (Kd.R (Kd.int .i64) 3 w' w.heap.size (fun k_ => (w.heap.size ≤ k_)) v347 x5_2) ∧ Aside0 (w'.heap[gb343]? = some (.cells #[.bool a0_0, (.slice A0_1 l0_1.length c0_1)] 87 (0, 0))) ∧ Aside0 (w'.heap[gb344]? = some (.cells #[.bool a1_0, (.slice A1_1 l1_1.length c1_1)] 87 (0, 0))) ∧ Aside0 (w'.heap[gb345]? = some (.cells #[.bool false, (.slice none 0 0)] 87 (0, 0))) ∧ Aside0 (Below w.heap.size w w'))
      case atStart => exact ⟨(x5_1), (0), sm_, H', ⟨Nat.le_refl _⟩, ⟨rs_ HO_5.out⟩, ⟨bq_ BK343.out⟩, ⟨bq_ BK344.out⟩, ⟨bq_ BK345.out⟩, ⟨bl_⟩⟩
      case round =>
       clear H'
       try clear c4; try clear c4b0; try clear c4b1; try clear c5; try clear c5b0; try clear c5b1; try clear c16; try clear c16b0; try clear hcz11_0; try clear hcz11_1; try clear hcz13_0; try clear hcz13_1; try clear hcz39_0; try clear hcz39_1; try clear hfz11_0; try clear hfz11_1; try clear hfz13_0; try clear hfz13_1; try clear hfz39_0; try clear hfz39_1
       obtain ⟨x5_2, x8_2, rfl, HA, HK2, HO_5, BK343, BK344, BK345, HB⟩ := hrel
       cases gk with
       | zero => exact absurd HA.out (by simp [paymasterref02_Mul.l2])
       | succ k2 =>
        have H := HA.out
        clear HA
        simp only [paymasterref02_Mul.l2] at H
        by_cases c40 : (wrap64 (x8_2 + 1)) < (x5_2.length : Int)
        ·rw [if_pos c40] at H
         have c40b0 : decide ((wrap64 (x8_2 + 1)) < (x5_2.length : Int)) = true := decide_eq_true c40
         clear c40
         obtain ⟨ji41, hji41⟩ : ∃ j_ : Int, (wrap64 (x8_2 + 1)) = j_ := ⟨_, rfl⟩
         replace H : (if 0 ≤ (ji41) then (if 0 ≤ x8_2 then (if x8_2 < (x5_2.length : Int) then ((some (x5_2.set ((ji41) : Int).toNat (wrap64 ((rd x5_2 (ji41)) + (wrap64 (Int.tdiv (rd x5_2 x8_2) 10)))) : List Int)).bind fun y355 => (paymasterref02_Mul.l2 k2 (y355.set (x8_2 : Int).toNat (Int.tmod (rd y355 x8_2) 10)) ji41 a0_0 l0_1 a1_0 l1_1)) else (none)) else (none)) else (none)) = some (r1, r2) := by first | (rw [hji41] at H; exact H) | (simp only [hji41] at H ⊢; exact H)
         (try rw [hji41] at c40b0)
         have hji41w : (IntKind.i64.wrap (x8_2 + 1)) = ji41 := (i64_w _).trans hji41
         by_cases c42 : 0 ≤ (ji41)
         ·rw [if_pos c42] at H
          have c42b0 : decide (0 ≤ (ji41)) = true := decide_eq_true c42
          clear c42
          by_cases c43 : 0 ≤ x8_2
          ·rw [if_pos c43] at H
           have c43b0 : decide (0 ≤ x8_2) = true := decide_eq_true c43
           clear c43
           by_cases c44 : x8_2 < (x5_2.length : Int)
           ·rw [if_pos c44] at H
            have c44b0 : decide (x8_2 < (x5_2.length : Int)) = true := decide_eq_true c44
            clear c44
            obtain ⟨y355, hy355⟩ : ∃ y_ : List Int, y_ = (x5_2.set ((ji41) : Int).toNat (wrap64 ((rd x5_2 (ji41)) + (wrap64 (Int.tdiv (rd x5_2 x8_2) 10))))) := ⟨_, rfl⟩
            replace H : (paymasterref02_Mul.l2 k2 (y355.set (x8_2 : Int).toNat (Int.tmod (rd y355 x8_2) 10)) ji41 a0_0 l0_1 a1_0 l1_1) = some (r1, r2) := by first | (rw [hy355]; with_reducible exact H) | (have H2_ := (Option.bind_some _ _).symm.trans H; rw [hy355]; with_reducible exact H2_) | (have H2_ := (Option.bind_some _ _).symm.trans H; with_reducible exact H2_) | with_reducible exact H | (rw [hy355]; exact H) | exact H
            have Ny355 := Aside0.mk hy355
            clear hy355
            obtain ⟨y357, hy357⟩ : ∃ y_ : List Int, y_ = (y355.set (x8_2 : Int).toNat (Int.tmod (rd y355 x8_2) 10)) := ⟨_, rfl⟩
            replace H : (paymasterref02_Mul.l2 k2 y357 ji41 a0_0 l0_1 a1_0 l1_1) = some (r1, r2) := by first | (rw [hy357]; with_reducible exact H) | (have H2_ := (Option.bind_some _ _).symm.trans H; rw [hy357]; with_reducible exact H2_) | (have H2_ := (Option.bind_some _ _).symm.trans H; with_reducible exact H2_) | with_reducible exact H | (rw [hy357]; exact H) | exact H
            have Ny357 := Aside0.mk hy357
            clear hy357
            have H' := Aside0.mk H
            clear H
            obtain ⟨Ao47, co47, eo47⟩ := Kd.R_slice HO_5.out
            subst eo47
            try go_wp2
            replace HO_5 := Aside0.mk (Kd.R_drew HO_5.out)
            replace BK343 := Aside0.mk (blk_drew BK343.out)
            replace BK344 := Aside0.mk (blk_drew BK344.out)
            replace BK345 := Aside0.mk (blk_drew BK345.out)
            replace HB := Aside0.mk (below_drew1 HB.out)
            have p353 : 0 ≤ ((ji41) : Int) := od_
            have q353 : (ji41) < (x5_2.length : Int) := od_
            obtain ⟨ad353, e353, hx353_0⟩ := Kd.at_int (Kd.R_reads' HO_5.out).2.2 (ji41) p353 q353
            cases e353
            replace p353 := eq_true p353
            replace q353 := eq_true q353
            have p354 : 0 ≤ (x8_2 : Int) := od_
            have q354 : x8_2 < (x5_2.length : Int) := od_
            obtain ⟨ad354, e354, hx354_0⟩ := Kd.at_int (Kd.R_reads' HO_5.out).2.2 x8_2 p354 q354
            obtain rfl : ad353 = ad354 := (by injection e354)
            replace p354 := eq_true p354
            replace q354 := eq_true q354
            have p45 : 0 ≤ ((ji41) : Int) := od_
            have q45 : ((ji41) : Int) < ((x5_2.length : Int) : Int) := od_
            obtain ⟨go45, co45, eo45, gb45, gl45, cl45, HG45⟩ := Kd.R_form HO_5.out (by omega)
            (first | cases eo45 | (injection eo45 with ea_ en_ ec_; (first | subst ea_ | (injection ea_ with ea_; subst ea_)); subst ec_; clear en_))
            have GB45 := Aside0.mk gb45
            have GG45 := Aside0.mk HG45
            clear gb45 gl45 HG45
            (first | simp only [add_plain] at hx353_0 | skip)
            (first | simp only [add_plain] at hx354_0 | skip)
            obtain ⟨hx45_0, hf45_0⟩ := Kd.R_celln 0 HO_5.out ((ji41) : Int) p45 q45
            replace p45 := eq_true p45
            replace q45 := eq_true q45
            have HP49 := Kd.R_putn HO_5.out ((ji41) : Int) (wrap64 ((rd x5_2 (ji41)) + (wrap64 (Int.tdiv (rd x5_2 x8_2) 10))))
            rw [← Ny355.out] at HP49
            have HQ49 := Aside0.mk HP49
            clear HP49
            refine start_ (n := 13) (S := fun w' => w'.cell? ⟨go45, ((ji41)).toNat, none⟩ = some (.int .i64 (rd x5_2 (ji41))) ∧ w'.cell? ⟨go45, (x8_2).toNat, none⟩ = some (.int .i64 (rd x5_2 x8_2))) (ds := [12]) #[false, false, false, false, false, false, false, false, false, false, false, false, false] (by kernel_rfl) rfl rfl ⟨hx353_0, hx354_0⟩ (fun hHeld => ?_); refine with_tabW paymasterref02_Mul.tab12 paymasterref02_Mul.bits12 (fun HT_ HW_ => ?_)
            generalize wr.drew = w48 at HO_5 BK343 BK344 BK345 HB GG45 HQ49 hf45_0 hx353_0 hx354_0 hx45_0 hHeld ⊢
            refine pure_ (i := 0) (N := some 58) (v := ?_) (a' := ?_) #[true, false, false, false, false, false, false, false, false, false, false, false, false] rfl rfl (any_of HT_.out (by kernel_rfl)) (fun _ _ _ h => h) (Or.inl ⟨by rfl, ?_⟩) ?_ ?_
            rotate_left
            ·intro w'
             go_simp
             with_reducible rfl
            rotate_left
            ·simp only [Act.put, List.setIfInBounds_toArray, List.set_cons_zero, List.set_cons_succ, i64_w, i32_w]
             rfl
            refine pure_ (i := 1) (N := some 59) (v := ?_) (a' := ?_) #[true, true, false, false, false, false, false, false, false, false, false, false, false] rfl rfl (any_of HT_.out (by kernel_rfl)) (fun _ _ _ h => h) (Or.inl ⟨by rfl, ?_⟩) ?_ ?_
            rotate_left
            ·intro w'
             go_simp
             with_reducible rfl
            rotate_left
            ·simp only [Act.put, List.setIfInBounds_toArray, List.set_cons_zero, List.set_cons_succ, i64_w, i32_w]
             rfl
            refine pure_ (i := 2) (N := some 60) (v := ?_) (a' := ?_) #[true, true, true, false, false, false, false, false, false, false, false, false, false] rfl rfl (any_of HT_.out (by kernel_rfl)) (fun _ _ _ h => h) (Or.inl ⟨by rfl, ?_⟩) ?_ ?_
            rotate_left
            ·intro w'
             go_simp
             with_reducible rfl
            rotate_left
            ·simp only [Act.put, List.setIfInBounds_toArray, List.set_cons_zero, List.set_cons_succ, i64_w, i32_w]
             rfl
            refine pure_ (i := 3) (N := some 61) (v := ?_) (a' := ?_) #[true, true, true, true, false, false, false, false, false, false, false, false, false] rfl rfl (any_of HT_.out (by kernel_rfl)) (fun _ _ _ h => h) (Or.inl ⟨by rfl, ?_⟩) ?_ ?_
            rotate_left
            ·intro w'
             go_simp
             with_reducible rfl
            rotate_left
            ·simp only [Act.put, List.setIfInBounds_toArray, List.set_cons_zero, List.set_cons_succ, i64_w, i32_w]
             rfl
            refine pure_ (i := 5) (N := some 63) (v := ?_) (a' := ?_) #[true, true, true, true, false, true, false, false, false, false, false, false, false] rfl rfl (any_of HT_.out (by kernel_rfl)) (fun _ _ _ h => h) (Or.inl ⟨by rfl, ?_⟩) ?_ ?_
            rotate_left
            ·intro w'
             go_simp
             with_reducible rfl
            rotate_left
            ·simp only [Act.put, List.setIfInBounds_toArray, List.set_cons_zero, List.set_cons_succ, i64_w, i32_w]
             rfl
            refine pure_ (i := 6) (N := some 64) (v := ?_) (a' := ?_) #[true, true, true, true, false, true, true, false, false, false, false, false, false] rfl rfl (any_of HT_.out (by kernel_rfl)) (fun _ _ _ h => h) (Or.inl ⟨by rfl, ?_⟩) ?_ ?_
            rotate_left
            ·intro w'
             go_simp
             with_reducible rfl
            rotate_left
            ·simp only [Act.put, List.setIfInBounds_toArray, List.set_cons_zero, List.set_cons_succ, i64_w, i32_w]
             rfl
            refine pure_ (i := 7) (N := some 65) (v := ?_) (a' := ?_) #[true, true, true, true, false, true, true, true, false, false, false, false, false] rfl rfl (any_of HT_.out (by kernel_rfl)) (fun _ _ _ h => h) (Or.inl ⟨by rfl, ?_⟩) ?_ ?_
            rotate_left
            ·intro w'
             go_simp
             with_reducible rfl
            rotate_left
            ·simp only [Act.put, List.setIfInBounds_toArray, List.set_cons_zero, List.set_cons_succ, i64_w, i32_w]
             rfl
            refine take_ (i := 4) (N := some 62) (v := ?_) (a' := ?_) #[true, true, true, true, true, true, true, true, false, false, false, false, false] rfl rfl (take_ofW HT_.out HW_.out (by kernel_rfl)) (fun _ _ _ h => h) (Or.inl ⟨by rfl, ?_⟩) hHeld ?_ ?_
            rotate_left
            ·rintro w' ⟨s0, s1⟩
             go_simp
             with_reducible rfl
            rotate_left
            ·simp only [Act.put, List.setIfInBounds_toArray, List.set_cons_zero, List.set_cons_succ, i64_w, i32_w]
             rfl
            refine take_ (i := 8) (N := some 66) (v := ?_) (a' := ?_) #[true, true, true, true, true, true, true, true, true, false, false, false, false] rfl rfl (take_ofW HT_.out HW_.out (by kernel_rfl)) (fun _ _ _ h => h) (Or.inl ⟨by rfl, ?_⟩) hHeld ?_ ?_
            rotate_left
            ·rintro w' ⟨s0, s1⟩
             go_simp
             with_reducible rfl
            rotate_left
            ·simp only [Act.put, List.setIfInBounds_toArray, List.set_cons_zero, List.set_cons_succ, i64_w, i32_w]
             rfl
            refine pure_ (i := 9) (N := some 67) (v := ?_) (a' := ?_) #[true, true, true, true, true, true, true, true, true, true, false, false, false] rfl rfl (any_of HT_.out (by kernel_rfl)) (fun _ _ _ h => h) (Or.inl ⟨by rfl, ?_⟩) ?_ ?_
            rotate_left
            ·intro w'
             go_simp
             with_reducible rfl
            rotate_left
            ·simp only [Act.put, List.setIfInBounds_toArray, List.set_cons_zero, List.set_cons_succ, i64_w, i32_w]
             rfl
            refine pure_ (i := 10) (N := some 68) (v := ?_) (a' := ?_) #[true, true, true, true, true, true, true, true, true, true, true, false, false] rfl rfl (any_of HT_.out (by kernel_rfl)) (fun _ _ _ h => h) (Or.inl ⟨by rfl, ?_⟩) ?_ ?_
            rotate_left
            ·intro w'
             go_simp
             with_reducible rfl
            rotate_left
            ·simp only [Act.put, List.setIfInBounds_toArray, List.set_cons_zero, List.set_cons_succ, i64_w, i32_w]
             rfl
            refine pure_ (i := 11) (N := some 69) (v := ?_) (a' := ?_) #[true, true, true, true, true, true, true, true, true, true, true, true, false] rfl rfl (any_of HT_.out (by kernel_rfl)) (fun _ _ _ h => h) (Or.inl ⟨by rfl, ?_⟩) ?_ ?_
            rotate_left
            ·intro w'
             go_simp
             with_reducible rfl
            rotate_left
            ·simp only [Act.put, List.setIfInBounds_toArray, List.set_cons_zero, List.set_cons_succ, i64_w, i32_w]
             rfl
            refine last_ (i := 12) (N := none) #[true, true, true, true, true, true, true, true, true, true, true, true, true] rfl rfl (one_of HT_.out (by kernel_rfl)) (by decide) (fun K hK => ?_)
            refine skip_ (w1 := ?_) (by rfl) rfl ?_ ?_
            rotate_left
            ·go_simp
             rfl
            refine hK.out _ _ ?_
            clear hK K
            refine done_ (done_of HT_.out (by kernel_rfl)) ?_
            have n0_ : Aside0 (Kd.R (Kd.int .i64) 3 (w48.setCell ⟨go45, ((ji41) : Int).toNat, none⟩ (.int .i64 (wrap64 ((rd x5_2 (ji41)) + (wrap64 (Int.tdiv (rd x5_2 x8_2) 10)))))) w.heap.size (fun k_ => (w.heap.size ≤ k_)) (.slice (some ⟨go45, 0, none⟩) x5_2.length co47) y355) := ⟨by refine kr_ ?_; exact HQ49.out⟩
            have n1_ : Aside0 ((w48.setCell ⟨go45, ((ji41) : Int).toNat, none⟩ (.int .i64 (wrap64 ((rd x5_2 (ji41)) + (wrap64 (Int.tdiv (rd x5_2 x8_2) 10)))))).heap[gb343]? = some (.cells #[.bool a0_0, .slice A0_1 l0_1.length c0_1] 87 (0, 0))) := ⟨by refine bq_ ?_; refine blk_far ?_ (by have h_ := Kd.R_ne HO_5.out BK343.out (by decide); intro e_; exact h_ (by rw [e_]; rfl)) _; refine bq_ ?_; exact BK343.out⟩
            have n2_ : Aside0 ((w48.setCell ⟨go45, ((ji41) : Int).toNat, none⟩ (.int .i64 (wrap64 ((rd x5_2 (ji41)) + (wrap64 (Int.tdiv (rd x5_2 x8_2) 10)))))).heap[gb344]? = some (.cells #[.bool a1_0, .slice A1_1 l1_1.length c1_1] 87 (0, 0))) := ⟨by refine bq_ ?_; refine blk_far ?_ (by have h_ := Kd.R_ne HO_5.out BK344.out (by decide); intro e_; exact h_ (by rw [e_]; rfl)) _; refine bq_ ?_; exact BK344.out⟩
            have n3_ : Aside0 ((w48.setCell ⟨go45, ((ji41) : Int).toNat, none⟩ (.int .i64 (wrap64 ((rd x5_2 (ji41)) + (wrap64 (Int.tdiv (rd x5_2 x8_2) 10)))))).heap[gb345]? = some (.cells #[.bool false, .slice none 0 0] 87 (0, 0))) := ⟨by refine bq_ ?_; refine blk_far ?_ (by have h_ := Kd.R_ne HO_5.out BK345.out (by decide); intro e_; exact h_ (by rw [e_]; rfl)) _; refine bq_ ?_; exact BK345.out⟩
            have n4_ : Aside0 (Below w.heap.size w (w48.setCell ⟨go45, ((ji41) : Int).toNat, none⟩ (.int .i64 (wrap64 ((rd x5_2 (ji41)) + (wrap64 (Int.tdiv (rd x5_2 x8_2) 10))))))) := ⟨by repeat (first | (with_reducible first | exact HB.out | apply below_alloc | apply pw_below_drewN | apply below_drew1 | refine below_set ?_ GB45.out | refine below_set ?_ GE343.out | refine below_set ?_ GE344.out | refine below_set ?_ GE345.out) | exact HB.out)⟩
            (try clear HO_5)
            (try clear BK343)
            (try clear BK344)
            (try clear BK345)
            (try clear HB)
            generalize (w48.setCell ⟨go45, ((ji41) : Int).toNat, none⟩ (.int .i64 (wrap64 ((rd x5_2 (ji41)) + (wrap64 (Int.tdiv (rd x5_2 x8_2) 10)))))) = w50 at n0_ n1_ n2_ n3_ n4_ ⊢
            have HO_5 := n0_
            have BK343 := n1_
            have BK344 := n2_
            have BK345 := n3_
            have HB := n4_
            clear n0_ n1_ n2_ n3_ n4_
            have p356 : 0 ≤ (x8_2 : Int) := od_
            have q356 : x8_2 < (y355.length : Int) := (by have h_ : (x8_2 : Int) < ((x5_2.length : Int) : Int) := od_; first | (have e_ := (Kd.R_reads' HO_5.out).1; omega) | simpa only [Ny355.out, List.length_set] using h_)
            have ql356 : ((x8_2 : Int) < ((x5_2.length : Int) : Int)) = True := eq_true (od_)
            obtain ⟨ad356, e356, hx356_0⟩ := Kd.at_int (Kd.R_reads' HO_5.out).2.2 x8_2 p356 q356
            obtain rfl : (⟨go45, 0, none⟩ : Addr) = ad356 := (by injection e356)
            (first | simp only [add_plain] at hx356_0 | simp only [add_at] at hx356_0 | simp only [Addr.add, Nat.zero_add] at hx356_0 | skip)
            replace p356 := eq_true p356
            replace q356 := eq_true q356
            have p46 : 0 ≤ (x8_2 : Int) := od_
            have q46 : (x8_2 : Int) < ((x5_2.length : Int) : Int) := od_
            obtain ⟨hx46_0, hf46_0⟩ := Kd.R_celln 0 HO_5.out (x8_2 : Int) p46 q46
            replace p46 := eq_true p46
            replace q46 := eq_true q46
            obtain ⟨hy51_, hz51_⟩ := Kd.R_celln 0 HO_5.out (x8_2 : Int) (od_) (od_)
            have HP51 := Kd.R_putg HO_5.out (x8_2 : Int) (Int.tmod (rd y355 x8_2) 10)
            try go_wp2_with (first | ((with_reducible refine gate_store (t := 3) (p := 77) rfl ?_); refine store_event (t := 3) (p := 77) (v := ?vo_w52) (w1 := (w50.setCell ⟨go45, (x8_2 : Int).toNat, none⟩ (.int .i64 (Int.tmod (rd y355 x8_2) 10)))) ?hg ?ho ?hn ?hr ?_; (case ho => rfl); (case hg => rfl); (case hn => rfl); (case hr => first | (go_simp; done) | (go_simp; rfl)); intro w52 hw; have hg : w50.grownBy w52 (some go45) := (by rw [hw]; exact HP51.2); have hp_ : Kd.R (Kd.int .i64) 3 w52 w.heap.size (fun k_ => (w.heap.size ≤ k_)) (.slice (some ⟨go45, 0, none⟩) x5_2.length co47) y357 := (by rw [hw, Ny357.out]; exact HP51.1); clear HP51; replace BK343 := bg_ BK343.out hg (Kd.R_ne HO_5.out BK343.out (by decide)); replace BK344 := bg_ BK344.out hg (Kd.R_ne HO_5.out BK344.out (by decide)); replace BK345 := bg_ BK345.out hg (Kd.R_ne HO_5.out BK345.out (by decide)); replace HO_5 := Aside0.mk (hp_); replace HB := Aside0.mk ((by rw [hw]; exact below_set (HB.out) GB45.out : Below w.heap.size w w52)); clear hg hw hp_))
            go_roundg k2
            case measure => have := HK1.out; have := HK2.out; omega
            case rel => exact ⟨(y357), (ji41), (by first | rfl | (simp; done) | (simp only [← hji41] <;> (first | rfl | simp)) | (simp [*]; done)), H', ⟨by have := HK1.out; have := HK2.out; omega⟩, ⟨rs_ HO_5.out⟩, ⟨bq_ BK343.out⟩, ⟨bq_ BK344.out⟩, ⟨bq_ BK345.out⟩, ⟨bl_⟩⟩
           ·rw [if_neg c44] at H
            exact absurd H (by simp)
          ·rw [if_neg c43] at H
           exact absurd H (by simp)
         ·rw [if_neg c42] at H
          exact absurd H (by simp)
        ·rw [if_neg c40] at H
         have c40b0 : decide ((wrap64 (x8_2 + 1)) < (x5_2.length : Int)) = false := decide_eq_false c40
         clear c40
         replace H := Option.bind_eq_some_iff.mp H
         obtain ⟨t358, A530, H⟩ := H
         (try dsimp only at H)
         have A53 := Aside0.mk A530
         clear A530
         by_cases c54 : (a0_0 != a1_0) = true
         ·rw [if_pos c54] at H
          have c54b0 : (a0_0 != a1_0) = true := c54
          (try (have c54b1 : decide (a0_0 = a1_0) = false := by simpa using c54))
          (try (have c54b2 : (a0_0 == a1_0) = false := by simpa using c54))
          (try (have c54b3 : ¬ (a0_0 = a1_0) := by simpa using c54))
          clear c54
          simp only [Option.some.injEq, Prod.mk.injEq] at H
          obtain ⟨rfl, rfl⟩ := H
          obtain ⟨Ao55, co55, eo55⟩ := Kd.R_slice HO_5.out
          subst eo55
          go_wp2_with (first | ((with_reducible refine gate_callee (f := 47) rfl ?_); refine goesL_ (some 79) rfl rfl Try.func47 (by kernel_rfl) rfl #[.slice Ao55 x5_2.length co55] rfl ga_ ?_; (with_reducible refine (paymasterref02_trim.calls k2 (fun k_ => some k_ = (.slice Ao55 x5_2.length co55 : Value).ownBlock) _ _ x5_2 t358 _ ?side1 A53.out).mono ?_); (case side1 => exact Kd.R_V (Kd.R_tight rfl (Kd.R_types (Kd.R_types (Kd.R_types (HO_5.out) BK343.out (by decide)) BK344.out (by decide)) BK345.out (by decide)))); rintro e w56 ⟨v359, rfl, ho0, hb⟩; refine ⟨_, rfl, ?_⟩; have HO360 := Aside0.mk (Kd.V_lower (Kd.V_mono (ok' := fun k_ => (w.heap.size ≤ k_) ∧ k_ ≠ gb343 ∧ k_ ≠ gb344 ∧ k_ ≠ gb345) ho0 (fun k_ hk_ => ⟨Or.elim hk_ (fun hs_ => ((Kd.R_types (Kd.R_types (Kd.R_types (HO_5.out) BK343.out (by decide)) BK344.out (by decide)) BK345.out (by decide)).1 k_ hs_.symm).1.1.1) (fun hn_ => (Nat.le_trans (below_size bl_) hn_)), Or.elim hk_ (fun hs_ => ((Kd.R_types (Kd.R_types (Kd.R_types (HO_5.out) BK343.out (by decide)) BK344.out (by decide)) BK345.out (by decide)).1 k_ hs_.symm).1.1.2) (fun hn_ => (Kd.freshB (g := gb343) (o := .cells #[.bool a0_0, .slice A0_1 l0_1.length c0_1] 87 (0, 0)) (bq_ BK343.out) k_ hn_)), Or.elim hk_ (fun hs_ => ((Kd.R_types (Kd.R_types (Kd.R_types (HO_5.out) BK343.out (by decide)) BK344.out (by decide)) BK345.out (by decide)).1 k_ hs_.symm).1.2) (fun hn_ => (Kd.freshB (g := gb344) (o := .cells #[.bool a1_0, .slice A1_1 l1_1.length c1_1] 87 (0, 0)) (bq_ BK344.out) k_ hn_)), Or.elim hk_ (fun hs_ => ((Kd.R_types (Kd.R_types (Kd.R_types (HO_5.out) BK343.out (by decide)) BK344.out (by decide)) BK345.out (by decide)).1 k_ hs_.symm).2) (fun hn_ => (Kd.freshB (g := gb345) (o := .cells #[.bool false, .slice none 0 0] 87 (0, 0)) (bq_ BK345.out) k_ hn_))⟩)) (below_size bl_)); replace HO_5 := rl_ HO_5.out hb; replace BK343 := bb_ BK343.out hb; replace BK344 := bb_ BK344.out hb; replace BK345 := bb_ BK345.out hb; replace HB := hs_ hb; (try clear hb); (try clear hb2); (try clear hk); (try clear hi); (try clear ho0); have hnb57 := NB343_344.out; have hnc57 := NB344_343.out; have hnb58 := NB343_345.out; have hnc58 := NB345_343.out; obtain ⟨hcz59_0, hcz59_1, hfz59_0, hfz59_1⟩ := c2_ BK343.out; have hnb60 := NB344_345.out; have hnc60 := NB345_344.out; obtain ⟨hcz61_0, hcz61_1, hfz61_0, hfz61_1⟩ := c2_ BK344.out; obtain ⟨Ao62, co62, eo62⟩ := Kd.V_slice HO360.out; subst eo62; obtain ⟨hcz63_0, hcz63_1, hfz63_0, hfz63_1⟩ := c2_ BK345.out))
          have hq_ : decide (0 < t358.length) = decide ((t358.length : Int) > 0) := by simp
          rw [hq_]
          refine bodyPost_ret (results_cell_row rfl _ _ gb345 87 #[.bool (decide ((t358.length : Int) > 0)), .slice Ao62 t358.length co62] (0, 0) _ rfl (bp_ BK345.out) Try.underlying87 rfl (by kernel_rfl)) rfl ?_
          exact ⟨_, by first | rfl | (simp [errW_none, errW_some] <;> rfl) | (simp only [← hji3]; first | rfl | (simp [errW_none, errW_some] <;> rfl)) | (simp [*, errW_none, errW_some] <;> rfl), by refine kv_ ?_; exact Kd.V_mono (Kd.V_far (p := ⟨gb345, 1, none⟩) (Kd.V_far (p := ⟨gb345, 0, none⟩) (Kd.V_mono HO360.out (fun k_ hk => (⟨hk, hk.2.2.2⟩ : _ ∧ k_ ≠ gb345))) (fun _ hk => hk.2) (.bool (decide ((t358.length : Int) > 0)))) (fun _ hk => hk.2) (.slice Ao62 t358.length co62)) (fun _ hk => hk.1.1), bl_⟩
         ·rw [if_neg c54] at H
          have c54b0 : (a0_0 != a1_0) = false := by simpa using c54
          (try (have c54b1 : decide (a0_0 = a1_0) = true := by simpa using c54))
          (try (have c54b2 : (a0_0 == a1_0) = true := by simpa using c54))
          clear c54
          simp only [Option.some.injEq, Prod.mk.injEq] at H
          obtain ⟨rfl, rfl⟩ := H
          obtain ⟨Ao64, co64, eo64⟩ := Kd.R_slice HO_5.out
          subst eo64
          go_wp2_with (first | ((with_reducible refine gate_callee (f := 47) rfl ?_); refine goesL_ (some 79) rfl rfl Try.func47 (by kernel_rfl) rfl #[.slice Ao64 x5_2.length co64] rfl ga_ ?_; (with_reducible refine (paymasterref02_trim.calls k2 (fun k_ => some k_ = (.slice Ao64 x5_2.length co64 : Value).ownBlock) _ _ x5_2 t358 _ ?side1 A53.out).mono ?_); (case side1 => exact Kd.R_V (Kd.R_tight rfl (Kd.R_types (Kd.R_types (Kd.R_types (HO_5.out) BK343.out (by decide)) BK344.out (by decide)) BK345.out (by decide)))); rintro e w65 ⟨v359, rfl, ho0, hb⟩; refine ⟨_, rfl, ?_⟩; have HO360 := Aside0.mk (Kd.V_lower (Kd.V_mono (ok' := fun k_ => (w.heap.size ≤ k_) ∧ k_ ≠ gb343 ∧ k_ ≠ gb344 ∧ k_ ≠ gb345) ho0 (fun k_ hk_ => ⟨Or.elim hk_ (fun hs_ => ((Kd.R_types (Kd.R_types (Kd.R_types (HO_5.out) BK343.out (by decide)) BK344.out (by decide)) BK345.out (by decide)).1 k_ hs_.symm).1.1.1) (fun hn_ => (Nat.le_trans (below_size bl_) hn_)), Or.elim hk_ (fun hs_ => ((Kd.R_types (Kd.R_types (Kd.R_types (HO_5.out) BK343.out (by decide)) BK344.out (by decide)) BK345.out (by decide)).1 k_ hs_.symm).1.1.2) (fun hn_ => (Kd.freshB (g := gb343) (o := .cells #[.bool a0_0, .slice A0_1 l0_1.length c0_1] 87 (0, 0)) (bq_ BK343.out) k_ hn_)), Or.elim hk_ (fun hs_ => ((Kd.R_types (Kd.R_types (Kd.R_types (HO_5.out) BK343.out (by decide)) BK344.out (by decide)) BK345.out (by decide)).1 k_ hs_.symm).1.2) (fun hn_ => (Kd.freshB (g := gb344) (o := .cells #[.bool a1_0, .slice A1_1 l1_1.length c1_1] 87 (0, 0)) (bq_ BK344.out) k_ hn_)), Or.elim hk_ (fun hs_ => ((Kd.R_types (Kd.R_types (Kd.R_types (HO_5.out) BK343.out (by decide)) BK344.out (by decide)) BK345.out (by decide)).1 k_ hs_.symm).2) (fun hn_ => (Kd.freshB (g := gb345) (o := .cells #[.bool false, .slice none 0 0] 87 (0, 0)) (bq_ BK345.out) k_ hn_))⟩)) (below_size bl_)); replace HO_5 := rl_ HO_5.out hb; replace BK343 := bb_ BK343.out hb; replace BK344 := bb_ BK344.out hb; replace BK345 := bb_ BK345.out hb; replace HB := hs_ hb; (try clear hb); (try clear hb2); (try clear hk); (try clear hi); (try clear ho0); have hnb66 := NB343_344.out; have hnc66 := NB344_343.out; have hnb67 := NB343_345.out; have hnc67 := NB345_343.out; obtain ⟨hcz68_0, hcz68_1, hfz68_0, hfz68_1⟩ := c2_ BK343.out; have hnb69 := NB344_345.out; have hnc69 := NB345_344.out; obtain ⟨hcz70_0, hcz70_1, hfz70_0, hfz70_1⟩ := c2_ BK344.out; obtain ⟨Ao71, co71, eo71⟩ := Kd.V_slice HO360.out; subst eo71; obtain ⟨hcz72_0, hcz72_1, hfz72_0, hfz72_1⟩ := c2_ BK345.out))
          refine bodyPost_ret (results_cell_row rfl _ _ gb345 87 #[.bool false, .slice Ao71 t358.length co71] (0, 0) _ rfl (bp_ BK345.out) Try.underlying87 rfl (by kernel_rfl)) rfl ?_
          exact ⟨_, by first | rfl | (simp [errW_none, errW_some] <;> rfl) | (simp only [← hji3]; first | rfl | (simp [errW_none, errW_some] <;> rfl)) | (simp [*, errW_none, errW_some] <;> rfl), by refine kv_ ?_; exact Kd.V_mono (Kd.V_far (p := ⟨gb345, 1, none⟩) (Kd.V_far (p := ⟨gb345, 0, none⟩) (Kd.V_mono HO360.out (fun k_ hk => (⟨hk, hk.2.2.2⟩ : _ ∧ k_ ≠ gb345))) (fun _ hk => hk.2) (.bool false)) (fun _ hk => hk.2) (.slice Ao71 t358.length co71)) (fun _ hk => hk.1.1), bl_⟩
  ·rw [if_neg c5] at H
   exact absurd H (by simp)
 ·rw [if_neg c4] at H
  exact absurd H (by simp)

end Go.Proofs.Ytocaneaofdbpoaa.PA
