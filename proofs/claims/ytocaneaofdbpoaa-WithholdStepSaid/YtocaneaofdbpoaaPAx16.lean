/- Contracts of the functions of the given program: written by wip/pmprint.py, a program of this session, which runs the print of the kit over altered functions. -/
import Derived.Test.YtocaneaofdbpoaaPAx0
import Derived.Test.YtocaneaofdbpoaaPAx15
namespace Go.Proofs.Ytocaneaofdbpoaa.PA
open Go.RowKit Go.Proofs.YtocaneaofdbpoaaW.PrintWords Go.Proofs.YtocaneaofdbpoaaW.PrintLast Go.Proofs.YtocaneaofdbpoaaW.PrintMore
attribute [local go_sem] max2_int min2_int max_two min_two max_three min_three max_four min_four   -- for this text's walks alone
set_option linter.unusedVariables false
set_option linter.unusedSimpArgs false

/-! ### paymasterref05_Part: function 37 -/
def paymasterref05_Part.f (l0 : List (S58)) (a1 : Int) (a2 : Int) : Option (Int) := if 0 ≤ a1 then (if a1 < (l0.length : Int) then (if a2 ≤ ((rd_T58 l0 a1).f0) then (some 0) else (if (wrap64 (a1 + 1)) < (l0.length : Int) then (if 0 ≤ (wrap64 (a1 + 1)) then (if a2 > ((rd_T58 l0 (wrap64 (a1 + 1))).f0) then (some (wrap64 (((rd_T58 l0 (wrap64 (a1 + 1))).f0) - ((rd_T58 l0 a1).f0)))) else (some (wrap64 (a2 - ((rd_T58 l0 a1).f0))))) else (none)) else (some (wrap64 (a2 - ((rd_T58 l0 a1).f0)))))) else (none)) else (none)
set_option maxHeartbeats 8000000 in
set_option maxRecDepth 100000 in
theorem paymasterref05_Part.calls (A0 : Option Addr) (c0 : Nat) (l0 : List (S58)) (a1 : Int) (a2 : Int) (r : Int) (w : World) (hr0 : Kd.C k58 w A0 l0.length l0) (hc0 : l0.length ≤ c0) (h : paymasterref05_Part.f l0 a1 a2 = some r) :
    Calls Try.prog 37 #[.slice A0 l0.length c0, .int .i64 a1, .int .i64 a2] w fun e w' => e = .returned (.int .i64 r) ∧ Drawn0 w w' := by
 have HR0 := Aside0.mk hr0
 have HC0 := Aside0.mk hc0
 clear hr0 hc0
 have H : (if 0 ≤ a1 then (if a1 < (l0.length : Int) then (if a2 ≤ ((rd_T58 l0 a1).f0) then (some 0) else (if (wrap64 (a1 + 1)) < (l0.length : Int) then (if 0 ≤ (wrap64 (a1 + 1)) then (if a2 > ((rd_T58 l0 (wrap64 (a1 + 1))).f0) then (some (wrap64 (((rd_T58 l0 (wrap64 (a1 + 1))).f0) - ((rd_T58 l0 a1).f0)))) else (some (wrap64 (a2 - ((rd_T58 l0 a1).f0))))) else (none)) else (some (wrap64 (a2 - ((rd_T58 l0 a1).f0)))))) else (none)) else (none)) = some r := h
 clear h
 by_cases c4 : 0 ≤ a1
 ·rw [if_pos c4] at H
  have c4b0 : decide (0 ≤ a1) = true := decide_eq_true c4
  clear c4
  by_cases c5 : a1 < (l0.length : Int)
  ·rw [if_pos c5] at H
   have c5b0 : decide (a1 < (l0.length : Int)) = true := decide_eq_true c5
   clear c5
   by_cases c6 : a2 ≤ ((rd_T58 l0 a1).f0)
   ·rw [if_pos c6] at H
    have c6b0 : decide (a2 ≤ ((rd_T58 l0 a1).f0)) = true := decide_eq_true c6
    clear c6
    obtain rfl := Option.some.inj H
    have p440 : 0 ≤ (a1 : Int) := od_
    have q440 : a1 < (l0.length : Int) := od_
    obtain ⟨ad440, e440, hx440_0, hx440_1⟩ := at_T58 HR0.out a1 p440 q440
    cases e440
    replace p440 := eq_true p440
    replace q440 := eq_true q440
    go_enter Try.func37, Try.ntmps37
    go_wp2
    repeat (go_quiet (fail); try go_wp2)
    go_ret
    exact ⟨sm_, dr_⟩
   ·rw [if_neg c6] at H
    have c6b0 : decide (a2 ≤ ((rd_T58 l0 a1).f0)) = false := decide_eq_false c6
    clear c6
    by_cases c7 : (wrap64 (a1 + 1)) < (l0.length : Int)
    ·rw [if_pos c7] at H
     have c7b0 : decide ((wrap64 (a1 + 1)) < (l0.length : Int)) = true := decide_eq_true c7
     clear c7
     obtain ⟨ji8, hji8⟩ : ∃ j_ : Int, (wrap64 (a1 + 1)) = j_ := ⟨_, rfl⟩
     replace H : (if 0 ≤ (ji8) then (if a2 > ((rd_T58 l0 (ji8)).f0) then (some (wrap64 (((rd_T58 l0 (ji8)).f0) - ((rd_T58 l0 a1).f0)))) else (some (wrap64 (a2 - ((rd_T58 l0 a1).f0))))) else (none)) = some r := by first | (rw [hji8] at H; exact H) | (simp only [hji8] at H ⊢; exact H)
     (try rw [hji8] at c7b0)
     have hji8w : (IntKind.i64.wrap (a1 + 1)) = ji8 := (i64_w _).trans hji8
     by_cases c9 : 0 ≤ (ji8)
     ·rw [if_pos c9] at H
      have c9b0 : decide (0 ≤ (ji8)) = true := decide_eq_true c9
      clear c9
      by_cases c10 : a2 > ((rd_T58 l0 (ji8)).f0)
      ·rw [if_pos c10] at H
       have c10b0 : decide (((rd_T58 l0 (ji8)).f0) < a2) = true := decide_eq_true c10
       clear c10
       obtain rfl := Option.some.inj H
       have p440 : 0 ≤ (a1 : Int) := od_
       have q440 : a1 < (l0.length : Int) := od_
       obtain ⟨ad440, e440, hx440_0, hx440_1⟩ := at_T58 HR0.out a1 p440 q440
       cases e440
       replace p440 := eq_true p440
       replace q440 := eq_true q440
       have p441 : 0 ≤ ((ji8) : Int) := od_
       have q441 : (ji8) < (l0.length : Int) := od_
       obtain ⟨ad441, e441, hx441_0, hx441_1⟩ := at_T58 HR0.out (ji8) p441 q441
       obtain rfl : ad440 = ad441 := (by injection e441)
       replace p441 := eq_true p441
       replace q441 := eq_true q441
       have p442 : 0 ≤ ((ji8) : Int) := od_
       have q442 : (ji8) < (l0.length : Int) := od_
       obtain ⟨ad442, e442, hx442_0, hx442_1⟩ := at_T58 HR0.out (ji8) p442 q442
       obtain rfl : ad440 = ad442 := (by injection e442)
       replace p442 := eq_true p442
       replace q442 := eq_true q442
       have p443 : 0 ≤ (a1 : Int) := od_
       have q443 : a1 < (l0.length : Int) := od_
       obtain ⟨ad443, e443, hx443_0, hx443_1⟩ := at_T58 HR0.out a1 p443 q443
       obtain rfl : ad440 = ad443 := (by injection e443)
       replace p443 := eq_true p443
       replace q443 := eq_true q443
       go_enter Try.func37, Try.ntmps37
       go_wp2
       repeat (go_quiet (fail); try go_wp2)
       go_ret
       exact ⟨by first | rfl | (simp; done) | (simp only [← hji8] <;> (first | rfl | simp)) | (simp [*]; done), dr_⟩
      ·rw [if_neg c10] at H
       have c10b0 : decide (((rd_T58 l0 (ji8)).f0) < a2) = false := decide_eq_false c10
       clear c10
       obtain rfl := Option.some.inj H
       have p440 : 0 ≤ (a1 : Int) := od_
       have q440 : a1 < (l0.length : Int) := od_
       obtain ⟨ad440, e440, hx440_0, hx440_1⟩ := at_T58 HR0.out a1 p440 q440
       cases e440
       replace p440 := eq_true p440
       replace q440 := eq_true q440
       have p441 : 0 ≤ ((ji8) : Int) := od_
       have q441 : (ji8) < (l0.length : Int) := od_
       obtain ⟨ad441, e441, hx441_0, hx441_1⟩ := at_T58 HR0.out (ji8) p441 q441
       obtain rfl : ad440 = ad441 := (by injection e441)
       replace p441 := eq_true p441
       replace q441 := eq_true q441
       have p444 : 0 ≤ (a1 : Int) := od_
       have q444 : a1 < (l0.length : Int) := od_
       obtain ⟨ad444, e444, hx444_0, hx444_1⟩ := at_T58 HR0.out a1 p444 q444
       obtain rfl : ad440 = ad444 := (by injection e444)
       replace p444 := eq_true p444
       replace q444 := eq_true q444
       go_enter Try.func37, Try.ntmps37
       go_wp2
       repeat (go_quiet (fail); try go_wp2)
       go_ret
       exact ⟨by first | rfl | (simp; done) | (simp only [← hji8] <;> (first | rfl | simp)) | (simp [*]; done), dr_⟩
     ·rw [if_neg c9] at H
      exact absurd H (by simp)
    ·rw [if_neg c7] at H
     have c7b0 : decide ((wrap64 (a1 + 1)) < (l0.length : Int)) = false := decide_eq_false c7
     clear c7
     obtain rfl := Option.some.inj H
     have p440 : 0 ≤ (a1 : Int) := od_
     have q440 : a1 < (l0.length : Int) := od_
     obtain ⟨ad440, e440, hx440_0, hx440_1⟩ := at_T58 HR0.out a1 p440 q440
     cases e440
     replace p440 := eq_true p440
     replace q440 := eq_true q440
     have p445 : 0 ≤ (a1 : Int) := od_
     have q445 : a1 < (l0.length : Int) := od_
     obtain ⟨ad445, e445, hx445_0, hx445_1⟩ := at_T58 HR0.out a1 p445 q445
     obtain rfl : ad440 = ad445 := (by injection e445)
     replace p445 := eq_true p445
     replace q445 := eq_true q445
     go_enter Try.func37, Try.ntmps37
     go_wp2
     repeat (go_quiet (fail); try go_wp2)
     go_ret
     exact ⟨sm_, dr_⟩
  ·rw [if_neg c5] at H
   exact absurd H (by simp)
 ·rw [if_neg c4] at H
  exact absurd H (by simp)

/-! ### paymasterref05_Tax: function 29 -/
def paymasterref05_Tax.l0 : Nat → List (S58) → Int → Int → Int → Option (Int)
  | 0, _, _, _, _ => none
  | k + 1, x0, x1, x5, x6 => if x6 < (x0.length : Int) then ((paymasterref05_Part.f x0 x6 x1).bind fun t446 => (if 0 ≤ x6 then ((paymasterref02_MulDiv.f k t446 ((rd_T58 x0 x6).f1) 10000 0).bind fun bt448 => (paymasterref05_Tax.l0 k x0 x1 (wrap64 (x5 + bt448.1)) (wrap64 (x6 + 1)))) else (none))) else (some x5)
def paymasterref05_Tax.f (k : Nat) (l0 : List (S58)) (a1 : Int) : Option (Int) := paymasterref05_Tax.l0 k l0 a1 0 0
def paymasterref05_Tax.T5 : Bool × List (List Nat × List Nat) := (true, [([], []), ([], []), ([], []), ([0, 1, 2], [0, 1, 2]), ([], []), ([], []), ([4, 5], [4, 5]), ([6], [6]), ([7], [7]), ([3, 8, 3], [3, 8]), ([9], [9]), ([10], [10]), ([10], [10]), ([11, 9, 0, 1, 2, 3, 4, 5, 6, 7, 8, 9, 10, 11], [11]), ([12, 13, 0, 1, 2, 3, 4, 5, 6, 7, 8, 9, 10, 11, 12, 13], [12])])
def paymasterref05_Tax.B5 : List Nat := [0, 0, 0, 7, 0, 0, 48, 112, 240, 511, 1023, 2047, 2047, 4095, 16383]
theorem paymasterref05_Tax.tab5 : rtab .any (opsOf Try.f29 5) = paymasterref05_Tax.T5 := by kernel_rfl
theorem paymasterref05_Tax.bits5 : waitsOk paymasterref05_Tax.T5.2 paymasterref05_Tax.B5 = true := by kernel_rfl
set_option maxHeartbeats 8000000 in
set_option maxRecDepth 100000 in
theorem paymasterref05_Tax.calls (k : Nat) (A0 : Option Addr) (c0 : Nat) (l0 : List (S58)) (a1 : Int) (r : Int) (w : World) (hr0 : Kd.C k58 w A0 l0.length l0) (hc0 : l0.length ≤ c0) (h : paymasterref05_Tax.f k l0 a1 = some r) :
    Calls Try.prog 29 #[.slice A0 l0.length c0, .int .i64 a1] w fun e w' => e = .returned (.int .i64 r) ∧ Below w.heap.size w w' := by
 have HR0 := Aside0.mk hr0
 have HC0 := Aside0.mk hc0
 clear hr0 hc0
 have HB := Aside0.mk (Below.refl w.heap.size w)
 have H : (paymasterref05_Tax.l0 k l0 a1 0 0) = some r := h
 clear h
 have H' := Aside0.mk H
 clear H
 go_enter Try.func29, Try.ntmps29
 go_wp2
 go_loopg [5, 6] k (fun kq v5 v6 w' => ∃ (x5_1 : Int) (x6_1 : Int), v5 = .int .i64 x5_1 ∧ v6 = .int .i64 x6_1 ∧ Aside0 (paymasterref05_Tax.l0 kq l0 a1 x5_1 x6_1 = some r) ∧ Aside0 (kq ≤ k) ∧ Aside0 (Below w.heap.size w w'))
 case atStart => exact ⟨(0), (0), sm_, sm_, H', ⟨Nat.le_refl _⟩, ⟨bl_⟩⟩
 case round =>
  clear H'
  obtain ⟨x5_1, x6_1, rfl, rfl, HA, HK1, HB⟩ := hrel
  cases gk with
  | zero => exact absurd HA.out (by simp [paymasterref05_Tax.l0])
  | succ k1 =>
   have H := HA.out
   clear HA
   simp only [paymasterref05_Tax.l0] at H
   by_cases c3 : x6_1 < (l0.length : Int)
   ·rw [if_pos c3] at H
    have c3b0 : decide (x6_1 < (l0.length : Int)) = true := decide_eq_true c3
    clear c3
    replace H := Option.bind_eq_some_iff.mp H
    obtain ⟨t446, A40, H⟩ := H
    (try dsimp only at H)
    have A4 := Aside0.mk A40
    clear A40
    by_cases c5 : 0 ≤ x6_1
    ·rw [if_pos c5] at H
     have c5b0 : decide (0 ≤ x6_1) = true := decide_eq_true c5
     clear c5
     replace H := Option.bind_eq_some_iff.mp H
     obtain ⟨⟨t448, t449⟩, A60, H⟩ := H
     (try dsimp only at H)
     have A6 := Aside0.mk A60
     clear A60
     have H' := Aside0.mk H
     clear H
     try go_wp2
     replace HB := Aside0.mk (below_drew1 HB.out)
     have p447 : 0 ≤ (x6_1 : Int) := od_
     have q447 : x6_1 < (l0.length : Int) := od_
     obtain ⟨ad447, e447, hx447_0, hx447_1⟩ := at_T58 HR0.out x6_1 p447 q447
     have hw447_1 := hx447_1
     have hw447_0 := hx447_0
     cases e447
     replace hx447_0 := (HB.out.cell (World.block_lt_of_cell? w _ hx447_0)).trans hx447_0
     replace hx447_1 := (HB.out.cell (World.block_lt_of_cell? w _ hx447_1)).trans hx447_1
     replace p447 := eq_true p447
     replace q447 := eq_true q447
     refine start_ (n := 15) (S := fun w' => w'.cell? (ad447.add ((x6_1).toNat * 2)) = some (.int .i64 ((rd_T58 l0 x6_1).f0)) ∧ w'.cell? ⟨(ad447.add ((x6_1).toNat * 2)).block, (ad447.add ((x6_1).toNat * 2)).off + 1, none⟩ = some (.int .i64 ((rd_T58 l0 x6_1).f1))) (ds := []) #[false, false, false, false, false, false, false, false, false, false, false, false, false, false, false] (by kernel_rfl) rfl rfl ⟨((HB.out.cell (World.block_lt_of_cell? w _ hw447_0)).trans hw447_0), ((HB.out.cell (World.block_lt_of_cell? w _ hw447_1)).trans hw447_1)⟩ (fun hHeld => ?_); refine with_tabW paymasterref05_Tax.tab5 paymasterref05_Tax.bits5 (fun HT_ HW_ => ?_)
     generalize wr.drew = w7 at HB hx447_0 hx447_1 hHeld ⊢
     refine pure_ (i := 0) (N := some 16) (v := ?_) (a' := ?_) #[true, false, false, false, false, false, false, false, false, false, false, false, false, false, false] rfl rfl (any_of HT_.out (by kernel_rfl)) (fun _ _ _ h => h) (Or.inl ⟨by rfl, ?_⟩) ?_ ?_
     rotate_left
     ·intro w'
      go_simp
      with_reducible rfl
     rotate_left
     ·simp only [Act.put, List.setIfInBounds_toArray, List.set_cons_zero, List.set_cons_succ, i64_w, i32_w]
      rfl
     refine pure_ (i := 1) (N := some 17) (v := ?_) (a' := ?_) #[true, true, false, false, false, false, false, false, false, false, false, false, false, false, false] rfl rfl (any_of HT_.out (by kernel_rfl)) (fun _ _ _ h => h) (Or.inl ⟨by rfl, ?_⟩) ?_ ?_
     rotate_left
     ·intro w'
      go_simp
      with_reducible rfl
     rotate_left
     ·simp only [Act.put, List.setIfInBounds_toArray, List.set_cons_zero, List.set_cons_succ, i64_w, i32_w]
      rfl
     refine pure_ (i := 2) (N := some 18) (v := ?_) (a' := ?_) #[true, true, true, false, false, false, false, false, false, false, false, false, false, false, false] rfl rfl (any_of HT_.out (by kernel_rfl)) (fun _ _ _ h => h) (Or.inl ⟨by rfl, ?_⟩) ?_ ?_
     rotate_left
     ·intro w'
      go_simp
      with_reducible rfl
     rotate_left
     ·simp only [Act.put, List.setIfInBounds_toArray, List.set_cons_zero, List.set_cons_succ, i64_w, i32_w]
      rfl
     refine pure_ (i := 4) (N := some 20) (v := ?_) (a' := ?_) #[true, true, true, false, true, false, false, false, false, false, false, false, false, false, false] rfl rfl (any_of HT_.out (by kernel_rfl)) (fun _ _ _ h => h) (Or.inl ⟨by rfl, ?_⟩) ?_ ?_
     rotate_left
     ·intro w'
      go_simp
      with_reducible rfl
     rotate_left
     ·simp only [Act.put, List.setIfInBounds_toArray, List.set_cons_zero, List.set_cons_succ, i64_w, i32_w]
      rfl
     refine pure_ (i := 5) (N := some 21) (v := ?_) (a' := ?_) #[true, true, true, false, true, true, false, false, false, false, false, false, false, false, false] rfl rfl (any_of HT_.out (by kernel_rfl)) (fun _ _ _ h => h) (Or.inl ⟨by rfl, ?_⟩) ?_ ?_
     rotate_left
     ·intro w'
      go_simp
      with_reducible rfl
     rotate_left
     ·simp only [Act.put, List.setIfInBounds_toArray, List.set_cons_zero, List.set_cons_succ, i64_w, i32_w]
      rfl
     refine pure_ (i := 6) (N := some 22) (v := ?_) (a' := ?_) #[true, true, true, false, true, true, true, false, false, false, false, false, false, false, false] rfl rfl (any_of HT_.out (by kernel_rfl)) (fun _ _ _ h => h) (Or.inl ⟨by rfl, ?_⟩) ?_ ?_
     rotate_left
     ·intro w'
      go_simp
      with_reducible rfl
     rotate_left
     ·simp only [Act.put, List.setIfInBounds_toArray, List.set_cons_zero, List.set_cons_succ, i64_w, i32_w]
      rfl
     refine pure_ (i := 7) (N := some 23) (v := ?_) (a' := ?_) #[true, true, true, false, true, true, true, true, false, false, false, false, false, false, false] rfl rfl (any_of HT_.out (by kernel_rfl)) (fun _ _ _ h => h) (Or.inl ⟨by rfl, ?_⟩) ?_ ?_
     rotate_left
     ·intro w'
      go_simp
      with_reducible rfl
     rotate_left
     ·simp only [Act.put, List.setIfInBounds_toArray, List.set_cons_zero, List.set_cons_succ, i64_w, i32_w]
      rfl
     refine take_ (i := 8) (N := some 24) (v := ?_) (a' := ?_) #[true, true, true, false, true, true, true, true, true, false, false, false, false, false, false] rfl rfl (take_ofW HT_.out HW_.out (by kernel_rfl)) (fun _ _ _ h => h) (Or.inl ⟨by rfl, ?_⟩) hHeld ?_ ?_
     rotate_left
     ·rintro w' ⟨s0, s1⟩
      go_simp
      with_reducible rfl
     rotate_left
     ·simp only [Act.put, List.setIfInBounds_toArray, List.set_cons_zero, List.set_cons_succ, i64_w, i32_w]
      rfl
     refine one_ (i := 3) (N := some 19) #[true, true, true, true, true, true, true, true, true, false, false, false, false, false, false] rfl rfl (one_of HT_.out (by kernel_rfl)) (by decide) (fun K hK => ?_)
     refine goes_ Try.func37 (by kernel_rfl) rfl #[.slice (some ad447) l0.length c0, .int .i64 x6_1, .int .i64 a1] (by rfl) rfl rfl ga_ ?_
     with_reducible refine (paymasterref05_Part.calls _ _ l0 x6_1 a1 t446 _ ?side1 ?side2 A4.out).mono ?_
     (case side1 => exact kc_ (Kd.C_below HR0.out HB.out))
     (case side2 => exact HC0.out)
     rintro e w' ⟨rfl, ⟨nd, rfl⟩⟩
     refine ⟨_, rfl, ?_⟩
     refine hK.out _ _ ⟨((HB.out.cell (World.block_lt_of_cell? w _ hw447_0)).trans hw447_0), ((HB.out.cell (World.block_lt_of_cell? w _ hw447_1)).trans hw447_1)⟩ (fun hHeld => ?_)
     clear hK K
     refine norm_ (a' := ?_) ?_ ?_
     rotate_left
     ·show Act.put _ (some 19) _ = _
      simp only [Act.put, List.setIfInBounds_toArray, List.set_cons_zero, List.set_cons_succ, i64_w, i32_w]
      rfl
     refine one_ (i := 9) (N := some 25) #[true, true, true, true, true, true, true, true, true, true, false, false, false, false, false] rfl rfl (one_of HT_.out (by kernel_rfl)) (by decide) (fun K hK => ?_)
     refine goes_ Try.func36 (by kernel_rfl) rfl #[.int .i64 t446, .int .i64 ((rd_T58 l0 x6_1).f1), .int .i64 10000, .int .i64 0] (by rfl) rfl rfl ga_ ?_
     with_reducible refine (paymasterref02_MulDiv.calls k1 t446 ((rd_T58 l0 x6_1).f1) 10000 0 t448 t449 _ A6.out).mono ?_
     rintro e w8 ⟨rfl, hb⟩
     refine ⟨_, rfl, ?_⟩
     replace HB := hs_ hb
     (try clear hb)
     (try clear hb2)
     (try clear hk)
     (try clear hi)
     refine hK.out _ _ ⟨((HB.out.cell (World.block_lt_of_cell? w _ hw447_0)).trans hw447_0), ((HB.out.cell (World.block_lt_of_cell? w _ hw447_1)).trans hw447_1)⟩ (fun hHeld => ?_)
     clear hK K
     refine norm_ (a' := ?_) ?_ ?_
     rotate_left
     ·show Act.put _ (some 25) _ = _
      simp only [Act.put, List.setIfInBounds_toArray, List.set_cons_zero, List.set_cons_succ, i64_w, i32_w]
      rfl
     refine pure_ (i := 10) (N := some 15) (v := ?_) (a' := ?_) #[true, true, true, true, true, true, true, true, true, true, true, false, false, false, false] rfl rfl (any_of HT_.out (by kernel_rfl)) (fun _ _ _ h => h) (Or.inl ⟨by rfl, ?_⟩) ?_ ?_
     rotate_left
     ·intro w'
      go_simp
      with_reducible rfl
     rotate_left
     ·simp only [Act.put, List.setIfInBounds_toArray, List.set_cons_zero, List.set_cons_succ, i64_w, i32_w]
      rfl
     refine pure_ (i := 11) (N := some 26) (v := ?_) (a' := ?_) #[true, true, true, true, true, true, true, true, true, true, true, true, false, false, false] rfl rfl (any_of HT_.out (by kernel_rfl)) (fun _ _ _ h => h) (Or.inl ⟨by rfl, ?_⟩) ?_ ?_
     rotate_left
     ·intro w'
      go_simp
      with_reducible rfl
     rotate_left
     ·simp only [Act.put, List.setIfInBounds_toArray, List.set_cons_zero, List.set_cons_succ, i64_w, i32_w]
      rfl
     refine pure_ (i := 12) (N := some 27) (v := ?_) (a' := ?_) #[true, true, true, true, true, true, true, true, true, true, true, true, true, false, false] rfl rfl (any_of HT_.out (by kernel_rfl)) (fun _ _ _ h => h) (Or.inl ⟨by rfl, ?_⟩) ?_ ?_
     rotate_left
     ·intro w'
      go_simp
      with_reducible rfl
     rotate_left
     ·simp only [Act.put, List.setIfInBounds_toArray, List.set_cons_zero, List.set_cons_succ, i64_w, i32_w]
      rfl
     refine pure_ (i := 13) (N := some 7) (v := ?_) (a' := ?_) #[true, true, true, true, true, true, true, true, true, true, true, true, true, true, false] rfl rfl (any_of HT_.out (by kernel_rfl)) (fun _ _ _ h => h) (Or.inl ⟨by rfl, ?_⟩) ?_ ?_
     rotate_left
     ·intro w'
      go_simp
      with_reducible rfl
     rotate_left
     ·simp only [Act.put, List.setIfInBounds_toArray, List.set_cons_zero, List.set_cons_succ, i64_w, i32_w]
      rfl
     refine pure_ (i := 14) (N := some 8) (v := ?_) (a' := ?_) #[true, true, true, true, true, true, true, true, true, true, true, true, true, true, true] rfl rfl (any_of HT_.out (by kernel_rfl)) (fun _ _ _ h => h) (Or.inl ⟨by rfl, ?_⟩) ?_ ?_
     rotate_left
     ·intro w'
      go_simp
      with_reducible rfl
     rotate_left
     ·simp only [Act.put, List.setIfInBounds_toArray, List.set_cons_zero, List.set_cons_succ, i64_w, i32_w]
      rfl
     refine done_ (done_of HT_.out (by kernel_rfl)) ?_
     try go_wp2
     go_roundg k1
     case measure => have := HK1.out; omega
     case rel => exact ⟨(wrap64 (x5_1 + t448)), (wrap64 (x6_1 + 1)), sm_, sm_, H', ⟨by have := HK1.out; omega⟩, ⟨bl_⟩⟩
    ·rw [if_neg c5] at H
     exact absurd H (by simp)
   ·rw [if_neg c3] at H
    have c3b0 : decide (x6_1 < (l0.length : Int)) = false := decide_eq_false c3
    clear c3
    obtain rfl := Option.some.inj H
    go_wp2
    go_ret
    exact ⟨se_, bl_⟩

/-! ### paymasterref14_part: function 30 -/
def paymasterref14_part.f (k : Nat) (a0 : Int) (a1 : Int) (a2 : Int) : Option (Int) := if a0 < 0 then (if 0 > a2 then ((paymasterref02_MulDiv.f k a2 a1 10000 0).bind fun bt450 => (some bt450.1)) else ((paymasterref02_MulDiv.f k 0 a1 10000 0).bind fun bt452 => (some bt452.1))) else (if a0 > a2 then ((paymasterref02_MulDiv.f k a2 a1 10000 0).bind fun bt454 => (some bt454.1)) else ((paymasterref02_MulDiv.f k a0 a1 10000 0).bind fun bt456 => (some bt456.1)))
set_option maxHeartbeats 8000000 in
set_option maxRecDepth 100000 in
theorem paymasterref14_part.calls (k : Nat) (a0 : Int) (a1 : Int) (a2 : Int) (r : Int) (w : World) (h : paymasterref14_part.f k a0 a1 a2 = some r) :
    Calls Try.prog 30 #[.int .i64 a0, .int .i64 a1, .int .i64 a2] w fun e w' => e = .returned (.int .i64 r) ∧ Below w.heap.size w w' := by
 have HB := Aside0.mk (Below.refl w.heap.size w)
 have H : (if a0 < 0 then (if 0 > a2 then ((paymasterref02_MulDiv.f k a2 a1 10000 0).bind fun bt450 => (some bt450.1)) else ((paymasterref02_MulDiv.f k 0 a1 10000 0).bind fun bt452 => (some bt452.1))) else (if a0 > a2 then ((paymasterref02_MulDiv.f k a2 a1 10000 0).bind fun bt454 => (some bt454.1)) else ((paymasterref02_MulDiv.f k a0 a1 10000 0).bind fun bt456 => (some bt456.1)))) = some r := h
 clear h
 by_cases c4 : a0 < 0
 ·rw [if_pos c4] at H
  have c4b0 : decide (a0 < 0) = true := decide_eq_true c4
  clear c4
  by_cases c5 : 0 > a2
  ·rw [if_pos c5] at H
   have c5b0 : decide (a2 < 0) = true := decide_eq_true c5
   clear c5
   replace H := Option.bind_eq_some_iff.mp H
   obtain ⟨⟨t450, t451⟩, A60, H⟩ := H
   (try dsimp only at H)
   have A6 := Aside0.mk A60
   clear A60
   obtain rfl := Option.some.inj H
   go_enter Try.func30, Try.ntmps30
   go_wp2_with (first | ((with_reducible refine gate_callee (f := 36) rfl ?_); refine goesL_ (some 18) rfl rfl Try.func36 (by kernel_rfl) rfl #[.int .i64 a2, .int .i64 a1, .int .i64 10000, .int .i64 0] rfl ga_ ?_; (with_reducible refine (paymasterref02_MulDiv.calls k a2 a1 10000 0 t450 t451 _ A6.out).mono ?_); rintro e w7 ⟨rfl, hb⟩; refine ⟨_, rfl, ?_⟩; replace HB := hs_ hb; (try clear hb); (try clear hb2); (try clear hk); (try clear hi)))
   go_ret
   exact ⟨se_, bl_⟩
  ·rw [if_neg c5] at H
   have c5b0 : decide (a2 < 0) = false := decide_eq_false c5
   clear c5
   replace H := Option.bind_eq_some_iff.mp H
   obtain ⟨⟨t452, t453⟩, A80, H⟩ := H
   (try dsimp only at H)
   have A8 := Aside0.mk A80
   clear A80
   obtain rfl := Option.some.inj H
   go_enter Try.func30, Try.ntmps30
   go_wp2_with (first | ((with_reducible refine gate_callee (f := 36) rfl ?_); refine goesL_ (some 18) rfl rfl Try.func36 (by kernel_rfl) rfl #[.int .i64 0, .int .i64 a1, .int .i64 10000, .int .i64 0] rfl ga_ ?_; (with_reducible refine (paymasterref02_MulDiv.calls k 0 a1 10000 0 t452 t453 _ A8.out).mono ?_); rintro e w9 ⟨rfl, hb⟩; refine ⟨_, rfl, ?_⟩; replace HB := hs_ hb; (try clear hb); (try clear hb2); (try clear hk); (try clear hi)))
   go_ret
   exact ⟨se_, bl_⟩
 ·rw [if_neg c4] at H
  have c4b0 : decide (a0 < 0) = false := decide_eq_false c4
  clear c4
  by_cases c10 : a0 > a2
  ·rw [if_pos c10] at H
   have c10b0 : decide (a2 < a0) = true := decide_eq_true c10
   clear c10
   replace H := Option.bind_eq_some_iff.mp H
   obtain ⟨⟨t454, t455⟩, A110, H⟩ := H
   (try dsimp only at H)
   have A11 := Aside0.mk A110
   clear A110
   obtain rfl := Option.some.inj H
   go_enter Try.func30, Try.ntmps30
   go_wp2_with (first | ((with_reducible refine gate_callee (f := 36) rfl ?_); refine goesL_ (some 18) rfl rfl Try.func36 (by kernel_rfl) rfl #[.int .i64 a2, .int .i64 a1, .int .i64 10000, .int .i64 0] rfl ga_ ?_; (with_reducible refine (paymasterref02_MulDiv.calls k a2 a1 10000 0 t454 t455 _ A11.out).mono ?_); rintro e w12 ⟨rfl, hb⟩; refine ⟨_, rfl, ?_⟩; replace HB := hs_ hb; (try clear hb); (try clear hb2); (try clear hk); (try clear hi)))
   go_ret
   exact ⟨se_, bl_⟩
  ·rw [if_neg c10] at H
   have c10b0 : decide (a2 < a0) = false := decide_eq_false c10
   clear c10
   replace H := Option.bind_eq_some_iff.mp H
   obtain ⟨⟨t456, t457⟩, A130, H⟩ := H
   (try dsimp only at H)
   have A13 := Aside0.mk A130
   clear A130
   obtain rfl := Option.some.inj H
   go_enter Try.func30, Try.ntmps30
   go_wp2_with (first | ((with_reducible refine gate_callee (f := 36) rfl ?_); refine goesL_ (some 18) rfl rfl Try.func36 (by kernel_rfl) rfl #[.int .i64 a0, .int .i64 a1, .int .i64 10000, .int .i64 0] rfl ga_ ?_; (with_reducible refine (paymasterref02_MulDiv.calls k a0 a1 10000 0 t456 t457 _ A13.out).mono ?_); rintro e w14 ⟨rfl, hb⟩; refine ⟨_, rfl, ?_⟩; replace HB := hs_ hb; (try clear hb); (try clear hb2); (try clear hk); (try clear hi)))
   go_ret
   exact ⟨se_, bl_⟩

end Go.Proofs.Ytocaneaofdbpoaa.PA
