/- Contracts of the functions of the given program: written by wip/pmprint.py, a program of this session, which runs the print of the kit over altered functions. -/
import Derived.Test.YtkfhclichfjhmaaPAx0
import Derived.Test.YtkfhclichfjhmaaPAx1
import Derived.Test.YtkfhclichfjhmaaPAx2
import Derived.Test.YtkfhclichfjhmaaPAx3
import Derived.Test.YtkfhclichfjhmaaPAx4
namespace Go.Proofs.Ytkfhclichfjhmaa.PA
open Go.RowKit Go.Proofs.YtkfhclichfjhmaaW.PrintWords Go.Proofs.YtkfhclichfjhmaaW.PrintLast Go.Proofs.YtkfhclichfjhmaaW.PrintMore
attribute [local go_sem] max2_int min2_int max_two min_two max_three min_three max_four min_four   -- for this text's walks alone
set_option linter.unusedVariables false
set_option linter.unusedSimpArgs false

attribute [local go_sem high] eqA23
/-! ### paymasterlaw06_DatesBack: function 3 -/
mutual
def paymasterlaw06_DatesBack.j0 : Nat → Int → Bool → Int → Bool → Int → Int → Int → Option (Bool)
  | 0, _, _, _, _, _, _, _ => none
  | k + 1, x0, x4, x5, x23, x141000, x141001, x141002 => if x23 = true then (if (x141000 == 0 && (x141001 == 0 && (x141002 == 0))) = true then (if x4 = true then (none) else ((paymasterlaw06_awake.f k).bind fun t142 => (some t142))) else (none)) else ((dates_Number.f k x141000 x141001 x141002).bind fun bt143 => (if x4 = true then (if bt143.2 = true then (paymasterlaw06_DatesBack.j1 k x0 x5 (bt143.1 != x0) x141000 x141001 x141002) else (paymasterlaw06_DatesBack.j1 k x0 x5 true x141000 x141001 x141002)) else (paymasterlaw06_DatesBack.j1 k x0 x5 true x141000 x141001 x141002)))
def paymasterlaw06_DatesBack.j1 : Nat → Int → Int → Bool → Int → Int → Int → Option (Bool)
  | 0, _, _, _, _, _, _ => none
  | k + 1, x0, x5, x49, x141000, x141001, x141002 => if x49 = true then (none) else ((dates_Of.f k (wrap64 (x0 + 1))).bind fun bt145 => (if x0 = x5 then (if bt145.2.2.2 = true then (none) else ((paymasterlaw06_awake.f k).bind fun t150 => (some t150))) else (if bt145.2.2.2 = true then ((paymasterref06_Next.f k x141000 x141001 x141002).bind fun bt151 => (if (bt145.1 == bt151.1 && (bt145.2.1 == bt151.2.1 && (bt145.2.2.1 == bt151.2.2))) = true then ((paymasterlaw06_awake.f k).bind fun t154 => (some t154)) else (none))) else (none))))
end
def paymasterlaw06_DatesBack.f (k : Nat) (a0 : Int) : Option (Bool) := (dates_Of.f k a0).bind fun bt136 => ((paymasterref06_Number.f k 2999 12 31).bind fun t141 => (if a0 < 0 then (paymasterlaw06_DatesBack.j0 k a0 bt136.2.2.2 t141 true bt136.1 bt136.2.1 bt136.2.2.1) else (paymasterlaw06_DatesBack.j0 k a0 bt136.2.2.2 t141 (decide (a0 > t141)) bt136.1 bt136.2.1 bt136.2.2.1)))
theorem paymasterlaw06_DatesBack.mono_l : ∀ k, (∀ y0 y1 y2 y3 y4 y5 y6, LeO (paymasterlaw06_DatesBack.j0 k y0 y1 y2 y3 y4 y5 y6) (paymasterlaw06_DatesBack.j0 (k + 1) y0 y1 y2 y3 y4 y5 y6)) ∧ (∀ y0 y1 y2 y3 y4 y5, LeO (paymasterlaw06_DatesBack.j1 k y0 y1 y2 y3 y4 y5) (paymasterlaw06_DatesBack.j1 (k + 1) y0 y1 y2 y3 y4 y5))
  | 0 => ⟨fun _ _ _ _ _ _ _ r h => by simp [paymasterlaw06_DatesBack.j0] at h, fun _ _ _ _ _ _ r h => by simp [paymasterlaw06_DatesBack.j1] at h⟩
  | k + 1 => by
    obtain ⟨ih0, ih1⟩ := paymasterlaw06_DatesBack.mono_l k
    refine ⟨?_, ?_⟩
    · intro y0 y1 y2 y3 y4 y5 y6
      unfold paymasterlaw06_DatesBack.j0
      repeat' first
      | (with_reducible exact ih0 _ _ _ _ _ _ _)
      | (with_reducible exact ih1 _ _ _ _ _ _)
      | (with_reducible exact dates_Number.mono _ _ _ _)
      | (with_reducible exact dates_Of.mono _ _)
      | (with_reducible exact paymasterlaw06_awake.mono _)
      | (with_reducible exact paymasterref06_Next.mono _ _ _ _)
      | (with_reducible exact paymasterref06_Number.mono _ _ _ _)
      | (with_reducible exact LeO.refl _)
      | (with_reducible exact LeO.none _)
      | (with_reducible refine LeO.ite ?_ ?_)
      | (with_reducible refine LeO.bind ?_ (fun _ => ?_))
      | exact ih0 _ _ _ _ _ _ _
      | exact ih1 _ _ _ _ _ _
      | exact dates_Number.mono _ _ _ _
      | exact dates_Of.mono _ _
      | exact paymasterlaw06_awake.mono _
      | exact paymasterref06_Next.mono _ _ _ _
      | exact paymasterref06_Number.mono _ _ _ _
      | exact LeO.none _
      | refine LeO.ite ?_ ?_
      | refine LeO.bind ?_ (fun _ => ?_)
    · intro y0 y1 y2 y3 y4 y5
      unfold paymasterlaw06_DatesBack.j1
      repeat' first
      | (with_reducible exact ih0 _ _ _ _ _ _ _)
      | (with_reducible exact ih1 _ _ _ _ _ _)
      | (with_reducible exact dates_Number.mono _ _ _ _)
      | (with_reducible exact dates_Of.mono _ _)
      | (with_reducible exact paymasterlaw06_awake.mono _)
      | (with_reducible exact paymasterref06_Next.mono _ _ _ _)
      | (with_reducible exact paymasterref06_Number.mono _ _ _ _)
      | (with_reducible exact LeO.refl _)
      | (with_reducible exact LeO.none _)
      | (with_reducible refine LeO.ite ?_ ?_)
      | (with_reducible refine LeO.bind ?_ (fun _ => ?_))
      | exact ih0 _ _ _ _ _ _ _
      | exact ih1 _ _ _ _ _ _
      | exact dates_Number.mono _ _ _ _
      | exact dates_Of.mono _ _
      | exact paymasterlaw06_awake.mono _
      | exact paymasterref06_Next.mono _ _ _ _
      | exact paymasterref06_Number.mono _ _ _ _
      | exact LeO.none _
      | refine LeO.ite ?_ ?_
      | refine LeO.bind ?_ (fun _ => ?_)
theorem paymasterlaw06_DatesBack.mono : ∀ a0 k, LeO (paymasterlaw06_DatesBack.f k a0) (paymasterlaw06_DatesBack.f (k + 1) a0) := by
  intro a0 k
  obtain ⟨ih0, ih1⟩ := paymasterlaw06_DatesBack.mono_l k
  unfold paymasterlaw06_DatesBack.f
  repeat' first
      | (with_reducible exact ih0 _ _ _ _ _ _ _)
      | (with_reducible exact ih1 _ _ _ _ _ _)
      | (with_reducible exact dates_Number.mono _ _ _ _)
      | (with_reducible exact dates_Of.mono _ _)
      | (with_reducible exact paymasterlaw06_awake.mono _)
      | (with_reducible exact paymasterref06_Next.mono _ _ _ _)
      | (with_reducible exact paymasterref06_Number.mono _ _ _ _)
      | (with_reducible exact LeO.refl _)
      | (with_reducible exact LeO.none _)
      | (with_reducible refine LeO.ite ?_ ?_)
      | (with_reducible refine LeO.bind ?_ (fun _ => ?_))
      | exact ih0 _ _ _ _ _ _ _
      | exact ih1 _ _ _ _ _ _
      | exact dates_Number.mono _ _ _ _
      | exact dates_Of.mono _ _
      | exact paymasterlaw06_awake.mono _
      | exact paymasterref06_Next.mono _ _ _ _
      | exact paymasterref06_Number.mono _ _ _ _
      | exact LeO.none _
      | refine LeO.ite ?_ ?_
      | refine LeO.bind ?_ (fun _ => ?_)
def paymasterlaw06_DatesBack.T11 : Bool × List (List Nat × List Nat) := (true, [([], []), ([0], [0]), ([1], [1]), ([1], [1]), ([3, 1, 1], [1, 3]), ([2, 4, 1], [1, 2, 4]), ([1, 5], [1, 5]), ([6, 4], [6]), ([7, 7], [7]), ([7, 8], [7, 8]), ([9, 8, 0, 1, 2, 3, 4, 5, 6, 7, 8, 9], [9])])
def paymasterlaw06_DatesBack.B11 : List Nat := [0, 1, 3, 3, 11, 31, 63, 127, 255, 511, 1023]
theorem paymasterlaw06_DatesBack.tab11 : rtab .any (opsOf Try.f3 11) = paymasterlaw06_DatesBack.T11 := by kernel_rfl
theorem paymasterlaw06_DatesBack.bits11 : waitsOk paymasterlaw06_DatesBack.T11.2 paymasterlaw06_DatesBack.B11 = true := by kernel_rfl
set_option maxHeartbeats 8000000 in
set_option maxRecDepth 100000 in
theorem paymasterlaw06_DatesBack.calls (k : Nat) (a0 : Int) (r : Bool) (w : World) (h : paymasterlaw06_DatesBack.f k a0 = some r) :
    Calls Try.prog 3 #[.int .i64 a0] w fun e w' => e = .returned (.bool r) ∧ Below w.heap.size w w' := by
  have hu23 := Try.underlying23
  have hu27 := Try.underlying27
  have HB := Aside0.mk (Below.refl w.heap.size w)
  have H : ((dates_Of.f k a0).bind fun bt136 => ((paymasterref06_Number.f k 2999 12 31).bind fun t141 => (if a0 < 0 then (paymasterlaw06_DatesBack.j0 k a0 bt136.2.2.2 t141 true bt136.1 bt136.2.1 bt136.2.2.1) else (paymasterlaw06_DatesBack.j0 k a0 bt136.2.2.2 t141 (decide (a0 > t141)) bt136.1 bt136.2.1 bt136.2.2.1)))) = some r := h
  clear h
  replace H := Option.bind_eq_some_iff.mp H
  obtain ⟨⟨t136, t137, t138, t139⟩, A20, H⟩ := H
  replace H : ((paymasterref06_Number.f k 2999 12 31).bind fun t141 => (if a0 < 0 then (paymasterlaw06_DatesBack.j0 k a0 t139 t141 true t136 t137 t138) else (paymasterlaw06_DatesBack.j0 k a0 t139 t141 (decide (a0 > t141)) t136 t137 t138))) = some r := H
  have A2 := Aside0.mk A20
  clear A20
  replace H := Option.bind_eq_some_iff.mp H
  obtain ⟨t141, A30, H⟩ := H
  replace H : (if a0 < 0 then (paymasterlaw06_DatesBack.j0 k a0 t139 t141 true t136 t137 t138) else (paymasterlaw06_DatesBack.j0 k a0 t139 t141 (decide (a0 > t141)) t136 t137 t138)) = some r := H
  have A3 := Aside0.mk A30
  clear A30
  have HC4 := Aside0.mk H
  clear H
  go_enter Try.func3, Try.ntmps3
  go_upto_region 3 with (first | ((with_reducible refine gate_callee (f := 10) rfl ?_); refine goesL_ (some 12) rfl rfl Try.func10 (by kernel_rfl) rfl #[.int .i64 a0] rfl (by (try simp only [List.map_toArray, List.map_cons, List.map_nil]); first | done | rfl | (simp only [List.length_drop, List.length_take]; rfl)) ?_; (with_reducible refine (dates_Of.calls k a0 t136 t137 t138 t139 _ A2.out).mono ?_); rintro e w5 ⟨rfl, hb⟩; refine ⟨_, rfl, ?_⟩; have n0_ := Aside0.mk (below_step (by repeat (first | (with_reducible first | exact HB.out | apply below_alloc | apply pw_below_drewN | apply below_drew1) | exact HB.out)) hb); clear HB; have HB := n0_; clear n0_; (try clear hb); (try clear hb2); (try clear hk); (try clear hi)) | ((with_reducible refine gate_dst (N := 3) rfl ?_); refine box_event ?hg (N := 3) ?hd (cs := #[.int .i64 0, .int .i64 0, .int .i64 0]) (t := 23) ?hr ?_; (case hd => rfl); (case hg => rfl); (case hr => first | (go_simp; done) | (go_simp; rfl)); intro gb140 hg w6 hbox hb; have n0_ := Aside0.mk (below_step (by repeat (first | (with_reducible first | exact HB.out | apply below_alloc | apply pw_below_drewN | apply below_drew1) | exact HB.out)) hb); have n1_ := Aside0.mk (hbox); have n2_ := Aside0.mk ((by rw [hg]; exact (below_size (by repeat (first | (with_reducible first | exact HB.out | apply below_alloc | apply pw_below_drewN | apply below_drew1) | exact HB.out))) : w.heap.size ≤ gb140)); have n3_ := Aside0.mk ((by rw [hg]; exact (below_size (by repeat (first | (with_reducible first | exact HB.out | apply below_alloc | apply pw_below_drewN | apply below_drew1) | exact HB.out))) : w.heap.size ≤ gb140)); clear HB; have HB := n0_; have BK140 := n1_; have GW140 := n2_; have GE140 := n3_; clear n0_ n1_ n2_ n3_; clear hb hbox hg; have hcz7_0 : w6.cell? ⟨gb140, 0, none⟩ = some (.int .i64 0) := (blk_cell BK140.out 0).trans rfl; have hcz7_1 : w6.cell? ⟨gb140, 1, none⟩ = some (.int .i64 0) := (blk_cell BK140.out 1).trans rfl; have hcz7_2 : w6.cell? ⟨gb140, 2, none⟩ = some (.int .i64 0) := (blk_cell BK140.out 2).trans rfl; have hfz7_0 := blk_frozen BK140.out 0; have hfz7_1 := blk_frozen BK140.out 1; have hfz7_2 := blk_frozen BK140.out 2) | ((with_reducible refine gate_callee (f := 11) rfl ?_); refine goesL_ (some 16) rfl rfl Try.func11 (by kernel_rfl) rfl #[.agg #[.int .i64 2999, .int .i64 12, .int .i64 31]] rfl (by (try simp only [List.map_toArray, List.map_cons, List.map_nil]); first | done | rfl | (simp only [List.length_drop, List.length_take]; rfl)) ?_; (with_reducible refine (paymasterref06_Number.calls k 2999 12 31 t141 _ A3.out).mono ?_); rintro e w8 ⟨rfl, hb⟩; refine ⟨_, rfl, ?_⟩; have n0_ := Aside0.mk (blk_below (g := gb140) (o := .cells #[.int .i64 t136, .int .i64 t137, .int .i64 t138] 23 (0, 0)) (by (with_reducible repeat (first | refine blk_drewN ?_ _ | refine blk_drew ?_ | refine blk_alloc ?_ _)); refine blk_put (cs := #[.int .i64 t136, .int .i64 t137, .int .i64 0]) ?_ 2 _ rfl; (with_reducible repeat (first | refine blk_drewN ?_ _ | refine blk_drew ?_ | refine blk_alloc ?_ _)); refine blk_put (cs := #[.int .i64 t136, .int .i64 0, .int .i64 0]) ?_ 1 _ rfl; (with_reducible repeat (first | refine blk_drewN ?_ _ | refine blk_drew ?_ | refine blk_alloc ?_ _)); refine blk_put (cs := #[.int .i64 0, .int .i64 0, .int .i64 0]) ?_ 0 _ rfl; (with_reducible repeat (first | refine blk_drewN ?_ _ | refine blk_drew ?_ | refine blk_alloc ?_ _)); exact BK140.out) hb); have n1_ := Aside0.mk (below_step (by repeat (first | (with_reducible first | exact HB.out | apply below_alloc | apply pw_below_drewN | apply below_drew1 | refine below_set ?_ GE140.out) | exact HB.out)) hb); clear BK140; clear HB; have BK140 := n0_; have HB := n1_; clear n0_ n1_; (try clear hb); (try clear hb2); (try clear hk); (try clear hi)))
  (try simp only [Act.put, List.setIfInBounds_toArray, List.set_cons_zero, List.set_cons_succ])
  go_cut [23] (fun v23 wc => ∃ (kq : Nat) (x23_3 : Bool), v23 = .bool x23_3 ∧ Aside0 (paymasterlaw06_DatesBack.j0 kq a0 t139 t141 x23_3 t136 t137 t138 = some r) ∧ Aside0 (kq ≤ k) ∧ Aside0 (wc.heap[gb140]? = some (.cells #[.int .i64 t136, .int .i64 t137, .int .i64 t138] 23 (0, 0))) ∧ Aside0 (Below w.heap.size w wc))
  case first =>
    have H := HC4.out
    clear HC4
    by_cases c9 : a0 < 0
    · rw [if_pos c9] at H
      have c9b0 : decide (a0 < 0) = true := decide_eq_true c9
      clear c9
      (first | rw [c9b0] | (simp only [i64_w, i32_w]; rw [c9b0]) | skip)
      have H' := Aside0.mk H
      clear H
      go_wp2
      go_meet
      case rel => exact ⟨_, (true), (by first | rfl | (simp; done) | (simp [*]; done)), H', ⟨by first | omega | exact Nat.le_refl _⟩, ⟨by (with_reducible repeat (first | refine blk_drewN ?_ _ | refine blk_drew ?_ | refine blk_alloc ?_ _)); exact BK140.out⟩, ⟨by repeat (first | (with_reducible first | exact HB.out | apply below_alloc | apply pw_below_drewN | apply below_drew1 | refine below_set ?_ GE140.out) | exact HB.out)⟩⟩
    · rw [if_neg c9] at H
      have c9b0 : decide (a0 < 0) = false := decide_eq_false c9
      clear c9
      (first | rw [c9b0] | (simp only [i64_w, i32_w]; rw [c9b0]) | skip)
      have H' := Aside0.mk H
      clear H
      go_wp2
      go_meet
      case rel => exact ⟨_, (decide (a0 > t141)), (by first | rfl | (simp; done) | (simp [*]; done)), H', ⟨by first | omega | exact Nat.le_refl _⟩, ⟨by (with_reducible repeat (first | refine blk_drewN ?_ _ | refine blk_drew ?_ | refine blk_alloc ?_ _)); exact BK140.out⟩, ⟨by repeat (first | (with_reducible first | exact HB.out | apply below_alloc | apply pw_below_drewN | apply below_drew1 | refine below_set ?_ GE140.out) | exact HB.out)⟩⟩
  case rest =>
    clear HC4
    try clear c1
    try clear p2
    try clear c3
    try clear c9
    try clear c9b0
    try clear hcz7_0
    try clear hcz7_1
    try clear hcz7_2
    try clear hfz7_0
    try clear hfz7_1
    try clear hfz7_2
    obtain ⟨kq, x23_3, rfl, HA, HJ3, BK140, HB⟩ := hcut
    cases kq with
    | zero => exact absurd HA.out (by simp [paymasterlaw06_DatesBack.j0])
    | succ kj3 =>
      have H := HA.out
      clear HA
      simp only [paymasterlaw06_DatesBack.j0] at H
      by_cases c10 : x23_3 = true
      · subst c10
        have H1 : (if (t136 == 0 && (t137 == 0 && (t138 == 0))) = true then (if t139 = true then (none) else ((paymasterlaw06_awake.f kj3).bind fun t142 => (some t142))) else (none)) = some r := by rw [if_pos rfl] at H; exact H
        clear H
        have H := H1
        clear H1
        by_cases c11 : (t136 == 0 && (t137 == 0 && (t138 == 0))) = true
        · rw [if_pos c11] at H
          have c11b0 : (t136 == 0 && (t137 == 0 && (t138 == 0))) = true := c11
          (try (have c11b1 : decide (t136 = 0 && (t137 == 0 && (t138 == 0))) = true := by simpa using c11))
          (try (have c11b2 : (t136 == 0 && (t137 == 0 && (t138 == 0))) = true := by simpa using c11))
          clear c11
          by_cases c12 : t139 = true
          · subst c12
            have H1 : (none) = some r := by rw [if_pos rfl] at H; exact H
            clear H
            have H := H1
            clear H1
            exact absurd H (by simp)
          · replace c12 := Bool.eq_false_iff.mpr c12
            subst c12
            have H1 : ((paymasterlaw06_awake.f kj3).bind fun t142 => (some t142)) = some r := by rw [if_neg (show ¬ (false = true) by decide)] at H; exact H
            clear H
            have H := H1
            clear H1
            replace H := Option.bind_eq_some_iff.mp H
            obtain ⟨t142, A130, H⟩ := H
            replace H : (some t142) = some r := H
            have A13 := Aside0.mk A130
            clear A130
            obtain rfl := Option.some.inj H
            have hcz14_0 : wc.cell? ⟨gb140, 0, none⟩ = some (.int .i64 t136) := (blk_cell BK140.out 0).trans rfl
            have hcz14_1 : wc.cell? ⟨gb140, 1, none⟩ = some (.int .i64 t137) := (blk_cell BK140.out 1).trans rfl
            have hcz14_2 : wc.cell? ⟨gb140, 2, none⟩ = some (.int .i64 t138) := (blk_cell BK140.out 2).trans rfl
            have hfz14_0 := blk_frozen BK140.out 0
            have hfz14_1 := blk_frozen BK140.out 1
            have hfz14_2 := blk_frozen BK140.out 2
            go_wp2_with (first | (go_at_call 12; (with_reducible refine (paymasterlaw06_awake.calls kj3  t142 _ A13.out).mono ?_); rintro e w15 ⟨rfl, hb⟩; have n0_ := Aside0.mk (blk_below (g := gb140) (o := .cells #[.int .i64 t136, .int .i64 t137, .int .i64 t138] 23 (0, 0)) (by (with_reducible repeat (first | refine blk_drewN ?_ _ | refine blk_drew ?_ | refine blk_alloc ?_ _)); exact BK140.out) hb); have n1_ := Aside0.mk (below_step (by repeat (first | (with_reducible first | exact HB.out | apply below_alloc | apply pw_below_drewN | apply below_drew1 | refine below_set ?_ GE140.out) | exact HB.out)) hb); clear BK140; clear HB; have BK140 := n0_; have HB := n1_; clear n0_ n1_; (try clear hb); (try clear hb2); (try clear hk); (try clear hi)))
            go_ret
            exact ⟨by first | rfl | (simp [errW_none, errW_some] <;> rfl) | (simp [*, errW_none, errW_some] <;> rfl), by repeat (first | (with_reducible first | exact HB.out | apply below_alloc | apply pw_below_drewN | apply below_drew1 | refine below_set ?_ GE140.out) | exact HB.out)⟩
        · rw [if_neg c11] at H
          exact absurd H (by simp)
      · replace c10 := Bool.eq_false_iff.mpr c10
        subst c10
        have H1 : ((dates_Number.f kj3 t136 t137 t138).bind fun bt143 => (if t139 = true then (if bt143.2 = true then (paymasterlaw06_DatesBack.j1 kj3 a0 t141 (bt143.1 != a0) t136 t137 t138) else (paymasterlaw06_DatesBack.j1 kj3 a0 t141 true t136 t137 t138)) else (paymasterlaw06_DatesBack.j1 kj3 a0 t141 true t136 t137 t138))) = some r := by rw [if_neg (show ¬ (false = true) by decide)] at H; exact H
        clear H
        have H := H1
        clear H1
        replace H := Option.bind_eq_some_iff.mp H
        obtain ⟨⟨t143, t144⟩, A160, H⟩ := H
        replace H : (if t139 = true then (if t144 = true then (paymasterlaw06_DatesBack.j1 kj3 a0 t141 (t143 != a0) t136 t137 t138) else (paymasterlaw06_DatesBack.j1 kj3 a0 t141 true t136 t137 t138)) else (paymasterlaw06_DatesBack.j1 kj3 a0 t141 true t136 t137 t138)) = some r := H
        have A16 := Aside0.mk A160
        clear A160
        have HC17 := Aside0.mk H
        clear H
        have hcz18_0 : wc.cell? ⟨gb140, 0, none⟩ = some (.int .i64 t136) := (blk_cell BK140.out 0).trans rfl
        have hcz18_1 : wc.cell? ⟨gb140, 1, none⟩ = some (.int .i64 t137) := (blk_cell BK140.out 1).trans rfl
        have hcz18_2 : wc.cell? ⟨gb140, 2, none⟩ = some (.int .i64 t138) := (blk_cell BK140.out 2).trans rfl
        have hfz18_0 := blk_frozen BK140.out 0
        have hfz18_1 := blk_frozen BK140.out 1
        have hfz18_2 := blk_frozen BK140.out 2
        go_upto_region 6 with (first | ((with_reducible refine gate_callee (f := 13) rfl ?_); refine goesL_ (some 36) rfl rfl Try.func13 (by kernel_rfl) rfl #[.agg #[.int .i64 t136, .int .i64 t137, .int .i64 t138]] rfl (by (try simp only [List.map_toArray, List.map_cons, List.map_nil]); first | done | rfl | (simp only [List.length_drop, List.length_take]; rfl)) ?_; (with_reducible refine (dates_Number.calls kj3 t136 t137 t138 t143 t144 _ A16.out).mono ?_); rintro e w19 ⟨rfl, hb⟩; refine ⟨_, rfl, ?_⟩; have n0_ := Aside0.mk (blk_below (g := gb140) (o := .cells #[.int .i64 t136, .int .i64 t137, .int .i64 t138] 23 (0, 0)) (by (with_reducible repeat (first | refine blk_drewN ?_ _ | refine blk_drew ?_ | refine blk_alloc ?_ _)); exact BK140.out) hb); have n1_ := Aside0.mk (below_step (by repeat (first | (with_reducible first | exact HB.out | apply below_alloc | apply pw_below_drewN | apply below_drew1 | refine below_set ?_ GE140.out) | exact HB.out)) hb); clear BK140; clear HB; have BK140 := n0_; have HB := n1_; clear n0_ n1_; (try clear hb); (try clear hb2); (try clear hk); (try clear hi)))
        (try simp only [Act.put, List.setIfInBounds_toArray, List.set_cons_zero, List.set_cons_succ])
        go_cut [49] (fun v49 wc => ∃ (kq : Nat) (x49_16 : Bool), v49 = .bool x49_16 ∧ Aside0 (paymasterlaw06_DatesBack.j1 kq a0 t141 x49_16 t136 t137 t138 = some r) ∧ Aside0 (kq ≤ kj3) ∧ Aside0 (wc.heap[gb140]? = some (.cells #[.int .i64 t136, .int .i64 t137, .int .i64 t138] 23 (0, 0))) ∧ Aside0 (Below w.heap.size w wc))
        case first =>
          have H := HC17.out
          clear HC17
          by_cases c20 : t139 = true
          · subst c20
            have H1 : (if t144 = true then (paymasterlaw06_DatesBack.j1 kj3 a0 t141 (t143 != a0) t136 t137 t138) else (paymasterlaw06_DatesBack.j1 kj3 a0 t141 true t136 t137 t138)) = some r := by rw [if_pos rfl] at H; exact H
            clear H
            have H := H1
            clear H1
            by_cases c21 : t144 = true
            · subst c21
              have H1 : (paymasterlaw06_DatesBack.j1 kj3 a0 t141 (t143 != a0) t136 t137 t138) = some r := by rw [if_pos rfl] at H; exact H
              clear H
              have H := H1
              clear H1
              have H' := Aside0.mk H
              clear H
              go_wp2
              go_meet
              case rel => exact ⟨_, ((t143 != a0)), (by first | rfl | (simp; done) | (simp [*]; done)), H', ⟨by have := HJ3.out; first | omega | exact Nat.le_refl _⟩, ⟨by (with_reducible repeat (first | refine blk_drewN ?_ _ | refine blk_drew ?_ | refine blk_alloc ?_ _)); exact BK140.out⟩, ⟨by repeat (first | (with_reducible first | exact HB.out | apply below_alloc | apply pw_below_drewN | apply below_drew1 | refine below_set ?_ GE140.out) | exact HB.out)⟩⟩
            · replace c21 := Bool.eq_false_iff.mpr c21
              subst c21
              have H1 : (paymasterlaw06_DatesBack.j1 kj3 a0 t141 true t136 t137 t138) = some r := by rw [if_neg (show ¬ (false = true) by decide)] at H; exact H
              clear H
              have H := H1
              clear H1
              have H' := Aside0.mk H
              clear H
              go_wp2
              go_meet
              case rel => exact ⟨_, (true), (by first | rfl | (simp; done) | (simp [*]; done)), H', ⟨by have := HJ3.out; first | omega | exact Nat.le_refl _⟩, ⟨by (with_reducible repeat (first | refine blk_drewN ?_ _ | refine blk_drew ?_ | refine blk_alloc ?_ _)); exact BK140.out⟩, ⟨by repeat (first | (with_reducible first | exact HB.out | apply below_alloc | apply pw_below_drewN | apply below_drew1 | refine below_set ?_ GE140.out) | exact HB.out)⟩⟩
          · replace c20 := Bool.eq_false_iff.mpr c20
            subst c20
            have H1 : (paymasterlaw06_DatesBack.j1 kj3 a0 t141 true t136 t137 t138) = some r := by rw [if_neg (show ¬ (false = true) by decide)] at H; exact H
            clear H
            have H := H1
            clear H1
            have H' := Aside0.mk H
            clear H
            go_wp2
            go_meet
            case rel => exact ⟨_, (true), (by first | rfl | (simp; done) | (simp [*]; done)), H', ⟨by have := HJ3.out; first | omega | exact Nat.le_refl _⟩, ⟨by (with_reducible repeat (first | refine blk_drewN ?_ _ | refine blk_drew ?_ | refine blk_alloc ?_ _)); exact BK140.out⟩, ⟨by repeat (first | (with_reducible first | exact HB.out | apply below_alloc | apply pw_below_drewN | apply below_drew1 | refine below_set ?_ GE140.out) | exact HB.out)⟩⟩
        case rest =>
          clear HC17
          try clear c1
          try clear c2
          try clear p2
          try clear c3
          try clear c9
          try clear c9b0
          try clear c10
          try clear c11
          try clear c11b0
          try clear c11b1
          try clear c11b2
          try clear c12
          try clear c13
          try clear c20
          try clear c21
          try clear hcz14_0
          try clear hcz14_1
          try clear hcz14_2
          try clear hcz18_0
          try clear hcz18_1
          try clear hcz18_2
          try clear hcz7_0
          try clear hcz7_1
          try clear hcz7_2
          try clear hfz14_0
          try clear hfz14_1
          try clear hfz14_2
          try clear hfz18_0
          try clear hfz18_1
          try clear hfz18_2
          try clear hfz7_0
          try clear hfz7_1
          try clear hfz7_2
          try clear p2
          obtain ⟨kq, x49_16, rfl, HA, HJ16, BK140, HB⟩ := hcut
          cases kq with
          | zero => exact absurd HA.out (by simp [paymasterlaw06_DatesBack.j1])
          | succ kj16 =>
            have H := HA.out
            clear HA
            simp only [paymasterlaw06_DatesBack.j1] at H
            by_cases c22 : x49_16 = true
            · subst c22
              have H1 : (none) = some r := by rw [if_pos rfl] at H; exact H
              clear H
              have H := H1
              clear H1
              exact absurd H (by simp)
            · replace c22 := Bool.eq_false_iff.mpr c22
              subst c22
              have H1 : ((dates_Of.f kj16 (wrap64 (a0 + 1))).bind fun bt145 => (if a0 = t141 then (if bt145.2.2.2 = true then (none) else ((paymasterlaw06_awake.f kj16).bind fun t150 => (some t150))) else (if bt145.2.2.2 = true then ((paymasterref06_Next.f kj16 t136 t137 t138).bind fun bt151 => (if (bt145.1 == bt151.1 && (bt145.2.1 == bt151.2.1 && (bt145.2.2.1 == bt151.2.2))) = true then ((paymasterlaw06_awake.f kj16).bind fun t154 => (some t154)) else (none))) else (none)))) = some r := by rw [if_neg (show ¬ (false = true) by decide)] at H; exact H
              clear H
              have H := H1
              clear H1
              replace H := Option.bind_eq_some_iff.mp H
              obtain ⟨⟨t145, t146, t147, t148⟩, A230, H⟩ := H
              replace H : (if a0 = t141 then (if t148 = true then (none) else ((paymasterlaw06_awake.f kj16).bind fun t150 => (some t150))) else (if t148 = true then ((paymasterref06_Next.f kj16 t136 t137 t138).bind fun bt151 => (if (t145 == bt151.1 && (t146 == bt151.2.1 && (t147 == bt151.2.2))) = true then ((paymasterlaw06_awake.f kj16).bind fun t154 => (some t154)) else (none))) else (none))) = some r := H
              have A23 := Aside0.mk A230
              clear A230
              by_cases c24 : a0 = t141
              · rw [if_pos c24] at H
                have c24b0 : (a0 == t141) = true := beq_iff_eq.mpr c24
                have c24b1 : (a0 != t141) = false := bne_eq_false_iff_eq.mpr c24
                clear c24
                by_cases c25 : t148 = true
                · subst c25
                  have H1 : (none) = some r := by rw [if_pos rfl] at H; exact H
                  clear H
                  have H := H1
                  clear H1
                  exact absurd H (by simp)
                · replace c25 := Bool.eq_false_iff.mpr c25
                  subst c25
                  have H1 : ((paymasterlaw06_awake.f kj16).bind fun t150 => (some t150)) = some r := by rw [if_neg (show ¬ (false = true) by decide)] at H; exact H
                  clear H
                  have H := H1
                  clear H1
                  replace H := Option.bind_eq_some_iff.mp H
                  obtain ⟨t150, A260, H⟩ := H
                  replace H : (some t150) = some r := H
                  have A26 := Aside0.mk A260
                  clear A260
                  obtain rfl := Option.some.inj H
                  go_wp2_with (first | ((with_reducible refine gate_callee (f := 10) rfl ?_); refine goesL_ (some 53) rfl rfl Try.func10 (by kernel_rfl) rfl #[.int .i64 (wrap64 (a0 + 1))] rfl (by (try simp only [List.map_toArray, List.map_cons, List.map_nil]); first | done | rfl | (simp only [List.length_drop, List.length_take]; rfl)) ?_; (with_reducible refine (dates_Of.calls kj16 (wrap64 (a0 + 1)) t145 t146 t147 false _ A23.out).mono ?_); rintro e w27 ⟨rfl, hb⟩; refine ⟨_, rfl, ?_⟩; have n0_ := Aside0.mk (blk_below (g := gb140) (o := .cells #[.int .i64 t136, .int .i64 t137, .int .i64 t138] 23 (0, 0)) (by (with_reducible repeat (first | refine blk_drewN ?_ _ | refine blk_drew ?_ | refine blk_alloc ?_ _)); exact BK140.out) hb); have n1_ := Aside0.mk (below_step (by repeat (first | (with_reducible first | exact HB.out | apply below_alloc | apply pw_below_drewN | apply below_drew1 | refine below_set ?_ GE140.out) | exact HB.out)) hb); clear BK140; clear HB; have BK140 := n0_; have HB := n1_; clear n0_ n1_; (try clear hb); (try clear hb2); (try clear hk); (try clear hi)) | ((with_reducible refine gate_dst (N := 8) rfl ?_); refine box_event ?hg (N := 8) ?hd (cs := #[.int .i64 0, .int .i64 0, .int .i64 0]) (t := 23) ?hr ?_; (case hd => rfl); (case hg => rfl); (case hr => first | (go_simp; done) | (go_simp; rfl)); intro gb149 hg w28 hbox hb; have n0_ := Aside0.mk (blk_below (g := gb140) (o := .cells #[.int .i64 t136, .int .i64 t137, .int .i64 t138] 23 (0, 0)) (by (with_reducible repeat (first | refine blk_drewN ?_ _ | refine blk_drew ?_ | refine blk_alloc ?_ _)); exact BK140.out) hb); have n1_ := Aside0.mk (below_step (by repeat (first | (with_reducible first | exact HB.out | apply below_alloc | apply pw_below_drewN | apply below_drew1 | refine below_set ?_ GE140.out) | exact HB.out)) hb); have n2_ := Aside0.mk (hbox); have n3_ := Aside0.mk ((by rw [hg]; exact (below_size (by repeat (first | (with_reducible first | exact HB.out | apply below_alloc | apply pw_below_drewN | apply below_drew1 | refine below_set ?_ GE140.out) | exact HB.out))) : w.heap.size ≤ gb149)); have n4_ := Aside0.mk ((by rw [hg]; exact (below_size (by repeat (first | (with_reducible first | exact HB.out | apply below_alloc | apply pw_below_drewN | apply below_drew1 | refine below_set ?_ GE140.out) | exact HB.out))) : w.heap.size ≤ gb149)); have n5_ := Aside0.mk ((by rw [hg]; exact Nat.ne_of_lt (blk_lt (g := gb140) (o := .cells #[.int .i64 t136, .int .i64 t137, .int .i64 t138] 23 (0, 0)) (by (with_reducible repeat (first | refine blk_drewN ?_ _ | refine blk_drew ?_ | refine blk_alloc ?_ _)); exact BK140.out)) : gb140 ≠ gb149)); have n6_ := Aside0.mk ((by rw [hg]; exact Nat.ne_of_gt (blk_lt (g := gb140) (o := .cells #[.int .i64 t136, .int .i64 t137, .int .i64 t138] 23 (0, 0)) (by (with_reducible repeat (first | refine blk_drewN ?_ _ | refine blk_drew ?_ | refine blk_alloc ?_ _)); exact BK140.out)) : gb149 ≠ gb140)); clear BK140; clear HB; have BK140 := n0_; have HB := n1_; have BK149 := n2_; have GW149 := n3_; have GE149 := n4_; have NB140_149 := n5_; have NB149_140 := n6_; clear n0_ n1_ n2_ n3_ n4_ n5_ n6_; clear hb hbox hg; have hnb29 := NB149_140.out; have hnc29 := NB140_149.out; have hcz30_0 : w28.cell? ⟨gb149, 0, none⟩ = some (.int .i64 0) := (blk_cell BK149.out 0).trans rfl; have hcz30_1 : w28.cell? ⟨gb149, 1, none⟩ = some (.int .i64 0) := (blk_cell BK149.out 1).trans rfl; have hcz30_2 : w28.cell? ⟨gb149, 2, none⟩ = some (.int .i64 0) := (blk_cell BK149.out 2).trans rfl; have hfz30_0 := blk_frozen BK149.out 0; have hfz30_1 := blk_frozen BK149.out 1; have hfz30_2 := blk_frozen BK149.out 2) | (go_at_call 12; (with_reducible refine (paymasterlaw06_awake.calls kj16  t150 _ A26.out).mono ?_); rintro e w31 ⟨rfl, hb⟩; have n0_ := Aside0.mk (blk_below (g := gb140) (o := .cells #[.int .i64 t136, .int .i64 t137, .int .i64 t138] 23 (0, 0)) (by (with_reducible repeat (first | refine blk_drewN ?_ _ | refine blk_drew ?_ | refine blk_alloc ?_ _)); refine blk_far ?_ NB140_149.out _; (with_reducible repeat (first | refine blk_drewN ?_ _ | refine blk_drew ?_ | refine blk_alloc ?_ _)); refine blk_far ?_ NB140_149.out _; (with_reducible repeat (first | refine blk_drewN ?_ _ | refine blk_drew ?_ | refine blk_alloc ?_ _)); refine blk_far ?_ NB140_149.out _; (with_reducible repeat (first | refine blk_drewN ?_ _ | refine blk_drew ?_ | refine blk_alloc ?_ _)); exact BK140.out) hb); have n1_ := Aside0.mk (blk_below (g := gb149) (o := .cells #[.int .i64 t145, .int .i64 t146, .int .i64 t147] 23 (0, 0)) (by (with_reducible repeat (first | refine blk_drewN ?_ _ | refine blk_drew ?_ | refine blk_alloc ?_ _)); refine blk_put (cs := #[.int .i64 t145, .int .i64 t146, .int .i64 0]) ?_ 2 _ rfl; (with_reducible repeat (first | refine blk_drewN ?_ _ | refine blk_drew ?_ | refine blk_alloc ?_ _)); refine blk_put (cs := #[.int .i64 t145, .int .i64 0, .int .i64 0]) ?_ 1 _ rfl; (with_reducible repeat (first | refine blk_drewN ?_ _ | refine blk_drew ?_ | refine blk_alloc ?_ _)); refine blk_put (cs := #[.int .i64 0, .int .i64 0, .int .i64 0]) ?_ 0 _ rfl; (with_reducible repeat (first | refine blk_drewN ?_ _ | refine blk_drew ?_ | refine blk_alloc ?_ _)); exact BK149.out) hb); have n2_ := Aside0.mk (below_step (by repeat (first | (with_reducible first | exact HB.out | apply below_alloc | apply pw_below_drewN | apply below_drew1 | refine below_set ?_ GE140.out | refine below_set ?_ GE149.out) | exact HB.out)) hb); clear BK140; clear BK149; clear HB; have BK140 := n0_; have BK149 := n1_; have HB := n2_; clear n0_ n1_ n2_; (try clear hb); (try clear hb2); (try clear hk); (try clear hi)))
                  go_ret
                  exact ⟨by first | rfl | (simp [errW_none, errW_some] <;> rfl) | (simp [*, errW_none, errW_some] <;> rfl), by repeat (first | (with_reducible first | exact HB.out | apply below_alloc | apply pw_below_drewN | apply below_drew1 | refine below_set ?_ GE140.out | refine below_set ?_ GE149.out) | exact HB.out)⟩
              · rw [if_neg c24] at H
                have c24b0 : (a0 == t141) = false := beq_eq_false_iff_ne.mpr c24
                have c24b1 : (a0 != t141) = true := bne_iff_ne.mpr c24
                by_cases c32 : t148 = true
                · subst c32
                  have H1 : ((paymasterref06_Next.f kj16 t136 t137 t138).bind fun bt151 => (if (t145 == bt151.1 && (t146 == bt151.2.1 && (t147 == bt151.2.2))) = true then ((paymasterlaw06_awake.f kj16).bind fun t154 => (some t154)) else (none))) = some r := by rw [if_pos rfl] at H; exact H
                  clear H
                  have H := H1
                  clear H1
                  replace H := Option.bind_eq_some_iff.mp H
                  obtain ⟨⟨t151, t152, t153⟩, A330, H⟩ := H
                  replace H : (if (t145 == t151 && (t146 == t152 && (t147 == t153))) = true then ((paymasterlaw06_awake.f kj16).bind fun t154 => (some t154)) else (none)) = some r := H
                  have A33 := Aside0.mk A330
                  clear A330
                  by_cases c34 : (t145 == t151 && (t146 == t152 && (t147 == t153))) = true
                  · rw [if_pos c34] at H
                    have c34b0 : (t145 == t151 && (t146 == t152 && (t147 == t153))) = true := c34
                    (try (have c34b1 : decide (t145 = t151 && (t146 == t152 && (t147 == t153))) = true := by simpa using c34))
                    (try (have c34b2 : (t145 == t151 && (t146 == t152 && (t147 == t153))) = true := by simpa using c34))
                    clear c34
                    replace H := Option.bind_eq_some_iff.mp H
                    obtain ⟨t154, A350, H⟩ := H
                    replace H : (some t154) = some r := H
                    have A35 := Aside0.mk A350
                    clear A350
                    obtain rfl := Option.some.inj H
                    try go_wp2_with (first | ((with_reducible refine gate_callee (f := 10) rfl ?_); refine goesL_ (some 53) rfl rfl Try.func10 (by kernel_rfl) rfl #[.int .i64 (wrap64 (a0 + 1))] rfl (by (try simp only [List.map_toArray, List.map_cons, List.map_nil]); first | done | rfl | (simp only [List.length_drop, List.length_take]; rfl)) ?_; (with_reducible refine (dates_Of.calls kj16 (wrap64 (a0 + 1)) t145 t146 t147 true _ A23.out).mono ?_); rintro e w36 ⟨rfl, hb⟩; refine ⟨_, rfl, ?_⟩; have n0_ := Aside0.mk (blk_below (g := gb140) (o := .cells #[.int .i64 t136, .int .i64 t137, .int .i64 t138] 23 (0, 0)) (by (with_reducible repeat (first | refine blk_drewN ?_ _ | refine blk_drew ?_ | refine blk_alloc ?_ _)); exact BK140.out) hb); have n1_ := Aside0.mk (below_step (by repeat (first | (with_reducible first | exact HB.out | apply below_alloc | apply pw_below_drewN | apply below_drew1 | refine below_set ?_ GE140.out) | exact HB.out)) hb); clear BK140; clear HB; have BK140 := n0_; have HB := n1_; clear n0_ n1_; (try clear hb); (try clear hb2); (try clear hk); (try clear hi)) | ((with_reducible refine gate_dst (N := 8) rfl ?_); refine box_event ?hg (N := 8) ?hd (cs := #[.int .i64 0, .int .i64 0, .int .i64 0]) (t := 23) ?hr ?_; (case hd => rfl); (case hg => rfl); (case hr => first | (go_simp; done) | (go_simp; rfl)); intro gb149 hg w37 hbox hb; have n0_ := Aside0.mk (blk_below (g := gb140) (o := .cells #[.int .i64 t136, .int .i64 t137, .int .i64 t138] 23 (0, 0)) (by (with_reducible repeat (first | refine blk_drewN ?_ _ | refine blk_drew ?_ | refine blk_alloc ?_ _)); exact BK140.out) hb); have n1_ := Aside0.mk (below_step (by repeat (first | (with_reducible first | exact HB.out | apply below_alloc | apply pw_below_drewN | apply below_drew1 | refine below_set ?_ GE140.out) | exact HB.out)) hb); have n2_ := Aside0.mk (hbox); have n3_ := Aside0.mk ((by rw [hg]; exact (below_size (by repeat (first | (with_reducible first | exact HB.out | apply below_alloc | apply pw_below_drewN | apply below_drew1 | refine below_set ?_ GE140.out) | exact HB.out))) : w.heap.size ≤ gb149)); have n4_ := Aside0.mk ((by rw [hg]; exact (below_size (by repeat (first | (with_reducible first | exact HB.out | apply below_alloc | apply pw_below_drewN | apply below_drew1 | refine below_set ?_ GE140.out) | exact HB.out))) : w.heap.size ≤ gb149)); have n5_ := Aside0.mk ((by rw [hg]; exact Nat.ne_of_lt (blk_lt (g := gb140) (o := .cells #[.int .i64 t136, .int .i64 t137, .int .i64 t138] 23 (0, 0)) (by (with_reducible repeat (first | refine blk_drewN ?_ _ | refine blk_drew ?_ | refine blk_alloc ?_ _)); exact BK140.out)) : gb140 ≠ gb149)); have n6_ := Aside0.mk ((by rw [hg]; exact Nat.ne_of_gt (blk_lt (g := gb140) (o := .cells #[.int .i64 t136, .int .i64 t137, .int .i64 t138] 23 (0, 0)) (by (with_reducible repeat (first | refine blk_drewN ?_ _ | refine blk_drew ?_ | refine blk_alloc ?_ _)); exact BK140.out)) : gb149 ≠ gb140)); clear BK140; clear HB; have BK140 := n0_; have HB := n1_; have BK149 := n2_; have GW149 := n3_; have GE149 := n4_; have NB140_149 := n5_; have NB149_140 := n6_; clear n0_ n1_ n2_ n3_ n4_ n5_ n6_; clear hb hbox hg; have hnb38 := NB149_140.out; have hnc38 := NB140_149.out; have hcz39_0 : w37.cell? ⟨gb149, 0, none⟩ = some (.int .i64 0) := (blk_cell BK149.out 0).trans rfl; have hcz39_1 : w37.cell? ⟨gb149, 1, none⟩ = some (.int .i64 0) := (blk_cell BK149.out 1).trans rfl; have hcz39_2 : w37.cell? ⟨gb149, 2, none⟩ = some (.int .i64 0) := (blk_cell BK149.out 2).trans rfl; have hfz39_0 := blk_frozen BK149.out 0; have hfz39_1 := blk_frozen BK149.out 1; have hfz39_2 := blk_frozen BK149.out 2))
                    have n0_ : Aside0 ((((w37.setCell ⟨gb149, 0, none⟩ (.int .i64 t145)).setCell ⟨gb149, 1, none⟩ (.int .i64 t146)).setCell ⟨gb149, 2, none⟩ (.int .i64 t147)).heap[gb140]? = some (.cells #[.int .i64 t136, .int .i64 t137, .int .i64 t138] 23 (0, 0))) := ⟨by (with_reducible repeat (first | refine blk_drewN ?_ _ | refine blk_drew ?_ | refine blk_alloc ?_ _)); refine blk_far ?_ NB140_149.out _; (with_reducible repeat (first | refine blk_drewN ?_ _ | refine blk_drew ?_ | refine blk_alloc ?_ _)); refine blk_far ?_ NB140_149.out _; (with_reducible repeat (first | refine blk_drewN ?_ _ | refine blk_drew ?_ | refine blk_alloc ?_ _)); refine blk_far ?_ NB140_149.out _; (with_reducible repeat (first | refine blk_drewN ?_ _ | refine blk_drew ?_ | refine blk_alloc ?_ _)); exact BK140.out⟩
                    have n1_ : Aside0 ((((w37.setCell ⟨gb149, 0, none⟩ (.int .i64 t145)).setCell ⟨gb149, 1, none⟩ (.int .i64 t146)).setCell ⟨gb149, 2, none⟩ (.int .i64 t147)).heap[gb149]? = some (.cells #[.int .i64 t145, .int .i64 t146, .int .i64 t147] 23 (0, 0))) := ⟨by (with_reducible repeat (first | refine blk_drewN ?_ _ | refine blk_drew ?_ | refine blk_alloc ?_ _)); refine blk_put (cs := #[.int .i64 t145, .int .i64 t146, .int .i64 0]) ?_ 2 _ rfl; (with_reducible repeat (first | refine blk_drewN ?_ _ | refine blk_drew ?_ | refine blk_alloc ?_ _)); refine blk_put (cs := #[.int .i64 t145, .int .i64 0, .int .i64 0]) ?_ 1 _ rfl; (with_reducible repeat (first | refine blk_drewN ?_ _ | refine blk_drew ?_ | refine blk_alloc ?_ _)); refine blk_put (cs := #[.int .i64 0, .int .i64 0, .int .i64 0]) ?_ 0 _ rfl; (with_reducible repeat (first | refine blk_drewN ?_ _ | refine blk_drew ?_ | refine blk_alloc ?_ _)); exact BK149.out⟩
                    have n2_ : Aside0 (Below w.heap.size w (((w37.setCell ⟨gb149, 0, none⟩ (.int .i64 t145)).setCell ⟨gb149, 1, none⟩ (.int .i64 t146)).setCell ⟨gb149, 2, none⟩ (.int .i64 t147))) := ⟨by repeat (first | (with_reducible first | exact HB.out | apply below_alloc | apply pw_below_drewN | apply below_drew1 | refine below_set ?_ GE140.out | refine below_set ?_ GE149.out) | exact HB.out)⟩
                    (try clear BK140)
                    (try clear BK149)
                    (try clear HB)
                    generalize (((w37.setCell ⟨gb149, 0, none⟩ (.int .i64 t145)).setCell ⟨gb149, 1, none⟩ (.int .i64 t146)).setCell ⟨gb149, 2, none⟩ (.int .i64 t147)) = w40 at n0_ n1_ n2_ ⊢
                    have BK140 := n0_
                    have BK149 := n1_
                    have HB := n2_
                    clear n0_ n1_ n2_
                    have n0_ := Aside0.mk (blk_drew BK140.out)
                    have n1_ := Aside0.mk (blk_drew BK149.out)
                    have n2_ := Aside0.mk (below_drew1 HB.out)
                    clear BK140
                    clear BK149
                    clear HB
                    have BK140 := n0_
                    have BK149 := n1_
                    have HB := n2_
                    clear n0_ n1_ n2_
                    refine start_ (n := 11) (S := fun w' => w'.cell? ⟨gb149, 0, none⟩ = some (.int .i64 t145) ∧ w'.cell? ⟨gb149, 1, none⟩ = some (.int .i64 t146) ∧ w'.cell? ⟨gb149, 2, none⟩ = some (.int .i64 t147) ∧ w'.cell? ⟨gb140, 0, none⟩ = some (.int .i64 t136) ∧ w'.cell? ⟨gb140, 1, none⟩ = some (.int .i64 t137) ∧ w'.cell? ⟨gb140, 2, none⟩ = some (.int .i64 t138)) (ds := []) #[false, false, false, false, false, false, false, false, false, false, false] (by kernel_rfl) rfl rfl ⟨(blk_cell BK149.out 0).trans rfl, (blk_cell BK149.out 1).trans rfl, (blk_cell BK149.out 2).trans rfl, (blk_cell BK140.out 0).trans rfl, (blk_cell BK140.out 1).trans rfl, (blk_cell BK140.out 2).trans rfl⟩ (fun hHeld => ?_); refine with_tabW paymasterlaw06_DatesBack.tab11 paymasterlaw06_DatesBack.bits11 (fun HT_ HW_ => ?_)
                    generalize w40.drew = w41 at BK140 BK149 HB hHeld ⊢
                    refine pure_ (i := 0) (N := some 64) (v := ?_) (a' := ?_) #[true, false, false, false, false, false, false, false, false, false, false] rfl rfl (any_of HT_.out (by kernel_rfl)) (fun _ _ _ h => h) (Or.inl ⟨by rfl, ?_⟩) ?_ ?_
                    rotate_left
                    · intro w'
                      go_simp
                      with_reducible rfl
                    rotate_left
                    · simp only [Act.put, List.setIfInBounds_toArray, List.set_cons_zero, List.set_cons_succ, i64_w, i32_w]
                      rfl
                    refine pure_ (i := 1) (N := some 65) (v := ?_) (a' := ?_) #[true, true, false, false, false, false, false, false, false, false, false] rfl rfl (any_of HT_.out (by kernel_rfl)) (fun _ _ _ h => h) (Or.inl ⟨by rfl, ?_⟩) ?_ ?_
                    rotate_left
                    · intro w'
                      go_simp
                      with_reducible rfl
                    rotate_left
                    · simp only [Act.put, List.setIfInBounds_toArray, List.set_cons_zero, List.set_cons_succ, i64_w, i32_w]
                      rfl
                    refine take_ (i := 2) (N := some 66) (v := ?_) (a' := ?_) #[true, true, true, false, false, false, false, false, false, false, false] rfl rfl (take_ofW HT_.out HW_.out (by kernel_rfl)) (fun _ _ _ h => h) (Or.inl ⟨by rfl, ?_⟩) hHeld ?_ ?_
                    rotate_left
                    · rintro w' ⟨s0, s1, s2, s3, s4, s5⟩
                      go_simp
                      with_reducible rfl
                    rotate_left
                    · simp only [Act.put, List.setIfInBounds_toArray, List.set_cons_zero, List.set_cons_succ, i64_w, i32_w]
                      rfl
                    refine take_ (i := 3) (N := some 67) (v := ?_) (a' := ?_) #[true, true, true, true, false, false, false, false, false, false, false] rfl rfl (take_ofW HT_.out HW_.out (by kernel_rfl)) (fun _ _ _ h => h) (Or.inl ⟨by rfl, ?_⟩) hHeld ?_ ?_
                    rotate_left
                    · rintro w' ⟨s0, s1, s2, s3, s4, s5⟩
                      go_simp
                      with_reducible rfl
                    rotate_left
                    · simp only [Act.put, List.setIfInBounds_toArray, List.set_cons_zero, List.set_cons_succ, i64_w, i32_w]
                      rfl
                    refine one_ (i := 4) (N := some 68) #[true, true, true, true, true, false, false, false, false, false, false] rfl rfl (one_of HT_.out (by kernel_rfl)) (by decide) (fun K hK => ?_)
                    refine goes_ Try.func14 (by kernel_rfl) rfl #[.agg #[.int .i64 t136, .int .i64 t137, .int .i64 t138]] (by rfl) rfl rfl (by (try simp only [List.map_toArray, List.map_cons, List.map_nil]); first | done | rfl | (simp only [List.length_drop, List.length_take]; rfl)) ?_
                    with_reducible refine (paymasterref06_Next.calls kj16 t136 t137 t138 t151 t152 t153 _ A33.out).mono ?_
                    rintro e w42 ⟨rfl, hb⟩
                    refine ⟨_, rfl, ?_⟩
                    have n0_ := Aside0.mk (blk_below (g := gb140) (o := .cells #[.int .i64 t136, .int .i64 t137, .int .i64 t138] 23 (0, 0)) (by (with_reducible repeat (first | refine blk_drewN ?_ _ | refine blk_drew ?_ | refine blk_alloc ?_ _)); exact BK140.out) hb)
                    have n1_ := Aside0.mk (blk_below (g := gb149) (o := .cells #[.int .i64 t145, .int .i64 t146, .int .i64 t147] 23 (0, 0)) (by (with_reducible repeat (first | refine blk_drewN ?_ _ | refine blk_drew ?_ | refine blk_alloc ?_ _)); exact BK149.out) hb)
                    have n2_ := Aside0.mk (below_step (by repeat (first | (with_reducible first | exact HB.out | apply below_alloc | apply pw_below_drewN | apply below_drew1 | refine below_set ?_ GE140.out | refine below_set ?_ GE149.out) | exact HB.out)) hb)
                    clear BK140
                    clear BK149
                    clear HB
                    have BK140 := n0_
                    have BK149 := n1_
                    have HB := n2_
                    clear n0_ n1_ n2_
                    (try clear hb)
                    (try clear hb2)
                    (try clear hk)
                    (try clear hi)
                    refine hK.out _ _ ⟨(blk_cell BK149.out 0).trans rfl, (blk_cell BK149.out 1).trans rfl, (blk_cell BK149.out 2).trans rfl, (blk_cell BK140.out 0).trans rfl, (blk_cell BK140.out 1).trans rfl, (blk_cell BK140.out 2).trans rfl⟩ (fun hHeld => ?_)
                    clear hK K
                    refine norm_ (a' := ?_) ?_ ?_
                    rotate_left
                    · show Act.put _ (some 68) _ = _
                      simp only [Act.put, List.setIfInBounds_toArray, List.set_cons_zero, List.set_cons_succ, i64_w, i32_w]
                      rfl
                    refine pure_ (i := 5) (N := some 69) (v := .bool true) (a' := ?_) #[true, true, true, true, true, true, false, false, false, false, false] rfl rfl (any_of HT_.out (by kernel_rfl)) (fun _ _ _ h => h) (Or.inl ⟨by rfl, ?_⟩) ?_ ?_
                    · intro w'
                      have e_ := c34b0
                      simp only [Bool.and_eq_true, beq_iff_eq, Bool.and_eq_false_iff, beq_eq_false_iff_ne] at e_
                      go_simp
                      repeat' split
                      all_goals first | rfl | (exfalso; simp_all; done) | (intros; omega)
                    rotate_left
                    · simp only [Act.put, List.setIfInBounds_toArray, List.set_cons_zero, List.set_cons_succ, i64_w, i32_w]
                      rfl
                    refine pure_ (i := 6) (N := some 70) (v := ?_) (a' := ?_) #[true, true, true, true, true, true, true, false, false, false, false] rfl rfl (any_of HT_.out (by kernel_rfl)) (fun _ _ _ h => h) (Or.inl ⟨by rfl, ?_⟩) ?_ ?_
                    rotate_left
                    · intro w'
                      go_simp
                      with_reducible rfl
                    rotate_left
                    · simp only [Act.put, List.setIfInBounds_toArray, List.set_cons_zero, List.set_cons_succ, i64_w, i32_w]
                      rfl
                    refine pure_ (i := 7) (N := some 71) (v := ?_) (a' := ?_) #[true, true, true, true, true, true, true, true, false, false, false] rfl rfl (any_of HT_.out (by kernel_rfl)) (fun _ _ _ h => h) (Or.inl ⟨by rfl, ?_⟩) ?_ ?_
                    rotate_left
                    · intro w'
                      go_simp
                      with_reducible rfl
                    rotate_left
                    · simp only [Act.put, List.setIfInBounds_toArray, List.set_cons_zero, List.set_cons_succ, i64_w, i32_w]
                      rfl
                    refine one_ (i := 8) (N := some 72) #[true, true, true, true, true, true, true, true, true, false, false] rfl rfl (one_of HT_.out (by kernel_rfl)) (by decide) (fun K hK => ?_)
                    refine goes_ Try.func12 (by kernel_rfl) rfl #[] (by rfl) rfl rfl (by (try simp only [List.map_toArray, List.map_cons, List.map_nil]); first | done | rfl | (simp only [List.length_drop, List.length_take]; rfl)) ?_
                    with_reducible refine (paymasterlaw06_awake.calls kj16  t154 _ A35.out).mono ?_
                    rintro e w43 ⟨rfl, hb⟩
                    refine ⟨_, rfl, ?_⟩
                    have n0_ := Aside0.mk (blk_below (g := gb140) (o := .cells #[.int .i64 t136, .int .i64 t137, .int .i64 t138] 23 (0, 0)) (by (with_reducible repeat (first | refine blk_drewN ?_ _ | refine blk_drew ?_ | refine blk_alloc ?_ _)); exact BK140.out) hb)
                    have n1_ := Aside0.mk (blk_below (g := gb149) (o := .cells #[.int .i64 t145, .int .i64 t146, .int .i64 t147] 23 (0, 0)) (by (with_reducible repeat (first | refine blk_drewN ?_ _ | refine blk_drew ?_ | refine blk_alloc ?_ _)); exact BK149.out) hb)
                    have n2_ := Aside0.mk (below_step (by repeat (first | (with_reducible first | exact HB.out | apply below_alloc | apply pw_below_drewN | apply below_drew1 | refine below_set ?_ GE140.out | refine below_set ?_ GE149.out) | exact HB.out)) hb)
                    clear BK140
                    clear BK149
                    clear HB
                    have BK140 := n0_
                    have BK149 := n1_
                    have HB := n2_
                    clear n0_ n1_ n2_
                    (try clear hb)
                    (try clear hb2)
                    (try clear hk)
                    (try clear hi)
                    refine hK.out _ _ ⟨(blk_cell BK149.out 0).trans rfl, (blk_cell BK149.out 1).trans rfl, (blk_cell BK149.out 2).trans rfl, (blk_cell BK140.out 0).trans rfl, (blk_cell BK140.out 1).trans rfl, (blk_cell BK140.out 2).trans rfl⟩ (fun hHeld => ?_)
                    clear hK K
                    refine norm_ (a' := ?_) ?_ ?_
                    rotate_left
                    · show Act.put _ (some 72) _ = _
                      simp only [Act.put, List.setIfInBounds_toArray, List.set_cons_zero, List.set_cons_succ, i64_w, i32_w]
                      rfl
                    refine pure_ (i := 9) (N := some 73) (v := ?_) (a' := ?_) #[true, true, true, true, true, true, true, true, true, true, false] rfl rfl (any_of HT_.out (by kernel_rfl)) (fun _ _ _ h => h) (Or.inl ⟨by rfl, ?_⟩) ?_ ?_
                    rotate_left
                    · intro w'
                      go_simp
                      with_reducible rfl
                    rotate_left
                    · simp only [Act.put, List.setIfInBounds_toArray, List.set_cons_zero, List.set_cons_succ, i64_w, i32_w]
                      rfl
                    refine pure_ (i := 10) (N := some 2) (v := ?_) (a' := ?_) #[true, true, true, true, true, true, true, true, true, true, true] rfl rfl (any_of HT_.out (by kernel_rfl)) (fun _ _ _ h => h) (Or.inl ⟨by rfl, ?_⟩) ?_ ?_
                    rotate_left
                    · intro w'
                      go_simp
                      with_reducible rfl
                    rotate_left
                    · simp only [Act.put, List.setIfInBounds_toArray, List.set_cons_zero, List.set_cons_succ, i64_w, i32_w]
                      rfl
                    refine done_ (done_of HT_.out (by kernel_rfl)) ?_
                    try go_wp2
                    go_ret
                    exact ⟨by first | rfl | (simp [errW_none, errW_some] <;> rfl) | (simp [*, errW_none, errW_some] <;> rfl), by repeat (first | (with_reducible first | exact HB.out | apply below_alloc | apply pw_below_drewN | apply below_drew1 | refine below_set ?_ GE140.out | refine below_set ?_ GE149.out) | exact HB.out)⟩
                  · rw [if_neg c34] at H
                    exact absurd H (by simp)
                · replace c32 := Bool.eq_false_iff.mpr c32
                  subst c32
                  have H1 : (none) = some r := by rw [if_neg (show ¬ (false = true) by decide)] at H; exact H
                  clear H
                  have H := H1
                  clear H1
                  exact absurd H (by simp)

/-- THE ONE PURE STATEMENT of paymasterlaw06_DatesBack: yours. -/
def paymasterlaw06_DatesBack.Pure : Prop := ∀ (a0 : Int), (Lit.int .i64 a0).wf = true → ∃ k, paymasterlaw06_DatesBack.f k a0 = some true
theorem paymasterlaw06_DatesBack.walk (P : paymasterlaw06_DatesBack.Pure) (a0 : Int) (w : World) (w0 : (Lit.int .i64 a0).wf = true) :
    Calls Try.prog 3 #[.int .i64 a0] w fun e w' => e = .returned (.bool true) ∧ Below w.heap.size w w' := by
  obtain ⟨k, h⟩ := P a0 w0
  refine (paymasterlaw06_DatesBack.calls k a0 true w h).mono ?_
  rintro e w' ⟨rfl, hd⟩
  exact ⟨rfl, hd⟩

/-! ### paymasterlaw06_DatesOrder: function 4 -/
def paymasterlaw06_DatesOrder.f (k : Nat) (a0 : Int) (a1 : Int) : Option (Bool) := (dates_Of.f k (wrap64 (Int.tmod a0 262144))).bind fun bt155 => ((dates_Of.f k (wrap64 (Int.tmod a1 262144))).bind fun bt160 => (if bt155.2.2.2 = true then (if bt160.2.2.2 = true then (if ((decide ((wrap64 (Int.tmod a0 262144)) < (wrap64 (Int.tmod a1 262144)))) == (decide ((wrap64 ((wrap64 ((wrap64 (10000 * bt155.1)) + (wrap64 (100 * bt155.2.1)))) + bt155.2.2.1)) < (wrap64 ((wrap64 ((wrap64 (10000 * bt160.1)) + (wrap64 (100 * bt160.2.1)))) + bt160.2.2.1))))) = true then (if (((wrap64 (Int.tmod a0 262144)) == (wrap64 (Int.tmod a1 262144))) == ((wrap64 ((wrap64 ((wrap64 (10000 * bt155.1)) + (wrap64 (100 * bt155.2.1)))) + bt155.2.2.1)) == (wrap64 ((wrap64 ((wrap64 (10000 * bt160.1)) + (wrap64 (100 * bt160.2.1)))) + bt160.2.2.1)))) = true then ((paymasterlaw06_awake.f k).bind fun t165 => (some t165)) else (none)) else (none)) else (none)) else (none)))
theorem paymasterlaw06_DatesOrder.mono : ∀ a0 a1 k, LeO (paymasterlaw06_DatesOrder.f k a0 a1) (paymasterlaw06_DatesOrder.f (k + 1) a0 a1) := by
  intro a0 a1 k
  unfold paymasterlaw06_DatesOrder.f
  repeat' first
      | (with_reducible exact dates_Of.mono _ _)
      | (with_reducible exact paymasterlaw06_awake.mono _)
      | (with_reducible exact LeO.refl _)
      | (with_reducible exact LeO.none _)
      | (with_reducible refine LeO.ite ?_ ?_)
      | (with_reducible refine LeO.bind ?_ (fun _ => ?_))
      | exact dates_Of.mono _ _
      | exact paymasterlaw06_awake.mono _
      | exact LeO.none _
      | refine LeO.ite ?_ ?_
      | refine LeO.bind ?_ (fun _ => ?_)
set_option maxHeartbeats 8000000 in
set_option maxRecDepth 100000 in
theorem paymasterlaw06_DatesOrder.calls (k : Nat) (a0 : Int) (a1 : Int) (r : Bool) (w : World) (h : paymasterlaw06_DatesOrder.f k a0 a1 = some r) :
    Calls Try.prog 4 #[.int .u32 a0, .int .u32 a1] w fun e w' => e = .returned (.bool r) ∧ Below w.heap.size w w' := by
  have hu23 := Try.underlying23
  have HB := Aside0.mk (Below.refl w.heap.size w)
  have H : ((dates_Of.f k (wrap64 (Int.tmod a0 262144))).bind fun bt155 => ((dates_Of.f k (wrap64 (Int.tmod a1 262144))).bind fun bt160 => (if bt155.2.2.2 = true then (if bt160.2.2.2 = true then (if ((decide ((wrap64 (Int.tmod a0 262144)) < (wrap64 (Int.tmod a1 262144)))) == (decide ((wrap64 ((wrap64 ((wrap64 (10000 * bt155.1)) + (wrap64 (100 * bt155.2.1)))) + bt155.2.2.1)) < (wrap64 ((wrap64 ((wrap64 (10000 * bt160.1)) + (wrap64 (100 * bt160.2.1)))) + bt160.2.2.1))))) = true then (if (((wrap64 (Int.tmod a0 262144)) == (wrap64 (Int.tmod a1 262144))) == ((wrap64 ((wrap64 ((wrap64 (10000 * bt155.1)) + (wrap64 (100 * bt155.2.1)))) + bt155.2.2.1)) == (wrap64 ((wrap64 ((wrap64 (10000 * bt160.1)) + (wrap64 (100 * bt160.2.1)))) + bt160.2.2.1)))) = true then ((paymasterlaw06_awake.f k).bind fun t165 => (some t165)) else (none)) else (none)) else (none)) else (none)))) = some r := h
  clear h
  replace H := Option.bind_eq_some_iff.mp H
  obtain ⟨⟨t155, t156, t157, t158⟩, A30, H⟩ := H
  replace H : ((dates_Of.f k (wrap64 (Int.tmod a1 262144))).bind fun bt160 => (if t158 = true then (if bt160.2.2.2 = true then (if ((decide ((wrap64 (Int.tmod a0 262144)) < (wrap64 (Int.tmod a1 262144)))) == (decide ((wrap64 ((wrap64 ((wrap64 (10000 * t155)) + (wrap64 (100 * t156)))) + t157)) < (wrap64 ((wrap64 ((wrap64 (10000 * bt160.1)) + (wrap64 (100 * bt160.2.1)))) + bt160.2.2.1))))) = true then (if (((wrap64 (Int.tmod a0 262144)) == (wrap64 (Int.tmod a1 262144))) == ((wrap64 ((wrap64 ((wrap64 (10000 * t155)) + (wrap64 (100 * t156)))) + t157)) == (wrap64 ((wrap64 ((wrap64 (10000 * bt160.1)) + (wrap64 (100 * bt160.2.1)))) + bt160.2.2.1)))) = true then ((paymasterlaw06_awake.f k).bind fun t165 => (some t165)) else (none)) else (none)) else (none)) else (none))) = some r := H
  have A3 := Aside0.mk A30
  clear A30
  replace H := Option.bind_eq_some_iff.mp H
  obtain ⟨⟨t160, t161, t162, t163⟩, A40, H⟩ := H
  replace H : (if t158 = true then (if t163 = true then (if ((decide ((wrap64 (Int.tmod a0 262144)) < (wrap64 (Int.tmod a1 262144)))) == (decide ((wrap64 ((wrap64 ((wrap64 (10000 * t155)) + (wrap64 (100 * t156)))) + t157)) < (wrap64 ((wrap64 ((wrap64 (10000 * t160)) + (wrap64 (100 * t161)))) + t162))))) = true then (if (((wrap64 (Int.tmod a0 262144)) == (wrap64 (Int.tmod a1 262144))) == ((wrap64 ((wrap64 ((wrap64 (10000 * t155)) + (wrap64 (100 * t156)))) + t157)) == (wrap64 ((wrap64 ((wrap64 (10000 * t160)) + (wrap64 (100 * t161)))) + t162)))) = true then ((paymasterlaw06_awake.f k).bind fun t165 => (some t165)) else (none)) else (none)) else (none)) else (none)) = some r := H
  have A4 := Aside0.mk A40
  clear A40
  by_cases c5 : t158 = true
  · subst c5
    have H1 : (if t163 = true then (if ((decide ((wrap64 (Int.tmod a0 262144)) < (wrap64 (Int.tmod a1 262144)))) == (decide ((wrap64 ((wrap64 ((wrap64 (10000 * t155)) + (wrap64 (100 * t156)))) + t157)) < (wrap64 ((wrap64 ((wrap64 (10000 * t160)) + (wrap64 (100 * t161)))) + t162))))) = true then (if (((wrap64 (Int.tmod a0 262144)) == (wrap64 (Int.tmod a1 262144))) == ((wrap64 ((wrap64 ((wrap64 (10000 * t155)) + (wrap64 (100 * t156)))) + t157)) == (wrap64 ((wrap64 ((wrap64 (10000 * t160)) + (wrap64 (100 * t161)))) + t162)))) = true then ((paymasterlaw06_awake.f k).bind fun t165 => (some t165)) else (none)) else (none)) else (none)) = some r := by rw [if_pos rfl] at H; exact H
    clear H
    have H := H1
    clear H1
    by_cases c6 : t163 = true
    · subst c6
      have H1 : (if ((decide ((wrap64 (Int.tmod a0 262144)) < (wrap64 (Int.tmod a1 262144)))) == (decide ((wrap64 ((wrap64 ((wrap64 (10000 * t155)) + (wrap64 (100 * t156)))) + t157)) < (wrap64 ((wrap64 ((wrap64 (10000 * t160)) + (wrap64 (100 * t161)))) + t162))))) = true then (if (((wrap64 (Int.tmod a0 262144)) == (wrap64 (Int.tmod a1 262144))) == ((wrap64 ((wrap64 ((wrap64 (10000 * t155)) + (wrap64 (100 * t156)))) + t157)) == (wrap64 ((wrap64 ((wrap64 (10000 * t160)) + (wrap64 (100 * t161)))) + t162)))) = true then ((paymasterlaw06_awake.f k).bind fun t165 => (some t165)) else (none)) else (none)) = some r := by rw [if_pos rfl] at H; exact H
      clear H
      have H := H1
      clear H1
      by_cases c7 : ((decide ((wrap64 (Int.tmod a0 262144)) < (wrap64 (Int.tmod a1 262144)))) == (decide ((wrap64 ((wrap64 ((wrap64 (10000 * t155)) + (wrap64 (100 * t156)))) + t157)) < (wrap64 ((wrap64 ((wrap64 (10000 * t160)) + (wrap64 (100 * t161)))) + t162))))) = true
      · rw [if_pos c7] at H
        have c7b0 : ((decide ((wrap64 (Int.tmod a0 262144)) < (wrap64 (Int.tmod a1 262144)))) == (decide ((wrap64 ((wrap64 ((wrap64 (10000 * t155)) + (wrap64 (100 * t156)))) + t157)) < (wrap64 ((wrap64 ((wrap64 (10000 * t160)) + (wrap64 (100 * t161)))) + t162))))) = true := c7
        (try (have c7b1 : decide ((decide ((wrap64 (Int.tmod a0 262144)) < (wrap64 (Int.tmod a1 262144)))) = (decide ((wrap64 ((wrap64 ((wrap64 (10000 * t155)) + (wrap64 (100 * t156)))) + t157)) < (wrap64 ((wrap64 ((wrap64 (10000 * t160)) + (wrap64 (100 * t161)))) + t162))))) = true := by simpa using c7))
        (try (have c7b2 : ((decide ((wrap64 (Int.tmod a0 262144)) < (wrap64 (Int.tmod a1 262144)))) == (decide ((wrap64 ((wrap64 ((wrap64 (10000 * t155)) + (wrap64 (100 * t156)))) + t157)) < (wrap64 ((wrap64 ((wrap64 (10000 * t160)) + (wrap64 (100 * t161)))) + t162))))) = true := by simpa using c7))
        clear c7
        by_cases c8 : (((wrap64 (Int.tmod a0 262144)) == (wrap64 (Int.tmod a1 262144))) == ((wrap64 ((wrap64 ((wrap64 (10000 * t155)) + (wrap64 (100 * t156)))) + t157)) == (wrap64 ((wrap64 ((wrap64 (10000 * t160)) + (wrap64 (100 * t161)))) + t162)))) = true
        · rw [if_pos c8] at H
          have c8b0 : (((wrap64 (Int.tmod a0 262144)) == (wrap64 (Int.tmod a1 262144))) == ((wrap64 ((wrap64 ((wrap64 (10000 * t155)) + (wrap64 (100 * t156)))) + t157)) == (wrap64 ((wrap64 ((wrap64 (10000 * t160)) + (wrap64 (100 * t161)))) + t162)))) = true := c8
          (try (have c8b1 : decide (((wrap64 (Int.tmod a0 262144)) == (wrap64 (Int.tmod a1 262144))) = ((wrap64 ((wrap64 ((wrap64 (10000 * t155)) + (wrap64 (100 * t156)))) + t157)) == (wrap64 ((wrap64 ((wrap64 (10000 * t160)) + (wrap64 (100 * t161)))) + t162)))) = true := by simpa using c8))
          (try (have c8b2 : (((wrap64 (Int.tmod a0 262144)) == (wrap64 (Int.tmod a1 262144))) == ((wrap64 ((wrap64 ((wrap64 (10000 * t155)) + (wrap64 (100 * t156)))) + t157)) == (wrap64 ((wrap64 ((wrap64 (10000 * t160)) + (wrap64 (100 * t161)))) + t162)))) = true := by simpa using c8))
          clear c8
          replace H := Option.bind_eq_some_iff.mp H
          obtain ⟨t165, A90, H⟩ := H
          replace H : (some t165) = some r := H
          have A9 := Aside0.mk A90
          clear A90
          obtain rfl := Option.some.inj H
          go_enter Try.func4, Try.ntmps4
          go_wp2_with (first | (go_at_call 10; (with_reducible refine (dates_Of.calls k (wrap64 (Int.tmod a0 262144)) t155 t156 t157 true _ A3.out).mono ?_); rintro e w10 ⟨rfl, hb⟩; have n0_ := Aside0.mk (below_step (by repeat (first | (with_reducible first | exact HB.out | apply below_alloc | apply pw_below_drewN | apply below_drew1) | exact HB.out)) hb); clear HB; have HB := n0_; clear n0_; (try clear hb); (try clear hb2); (try clear hk); (try clear hi)) | ((with_reducible refine gate_dst (N := 7) rfl ?_); refine box_event ?hg (N := 7) ?hd (cs := #[.int .i64 0, .int .i64 0, .int .i64 0]) (t := 23) ?hr ?_; (case hd => rfl); (case hg => rfl); (case hr => first | (go_simp; done) | (go_simp; rfl)); intro gb159 hg w11 hbox hb; have n0_ := Aside0.mk (below_step (by repeat (first | (with_reducible first | exact HB.out | apply below_alloc | apply pw_below_drewN | apply below_drew1) | exact HB.out)) hb); have n1_ := Aside0.mk (hbox); have n2_ := Aside0.mk ((by rw [hg]; exact (below_size (by repeat (first | (with_reducible first | exact HB.out | apply below_alloc | apply pw_below_drewN | apply below_drew1) | exact HB.out))) : w.heap.size ≤ gb159)); have n3_ := Aside0.mk ((by rw [hg]; exact (below_size (by repeat (first | (with_reducible first | exact HB.out | apply below_alloc | apply pw_below_drewN | apply below_drew1) | exact HB.out))) : w.heap.size ≤ gb159)); clear HB; have HB := n0_; have BK159 := n1_; have GW159 := n2_; have GE159 := n3_; clear n0_ n1_ n2_ n3_; clear hb hbox hg; have hcz12_0 : w11.cell? ⟨gb159, 0, none⟩ = some (.int .i64 0) := (blk_cell BK159.out 0).trans rfl; have hcz12_1 : w11.cell? ⟨gb159, 1, none⟩ = some (.int .i64 0) := (blk_cell BK159.out 1).trans rfl; have hcz12_2 : w11.cell? ⟨gb159, 2, none⟩ = some (.int .i64 0) := (blk_cell BK159.out 2).trans rfl; have hfz12_0 := blk_frozen BK159.out 0; have hfz12_1 := blk_frozen BK159.out 1; have hfz12_2 := blk_frozen BK159.out 2) | (go_at_call 10; (with_reducible refine (dates_Of.calls k (wrap64 (Int.tmod a1 262144)) t160 t161 t162 true _ A4.out).mono ?_); rintro e w13 ⟨rfl, hb⟩; have n0_ := Aside0.mk (blk_below (g := gb159) (o := .cells #[.int .i64 t155, .int .i64 t156, .int .i64 t157] 23 (0, 0)) (by (with_reducible repeat (first | refine blk_drewN ?_ _ | refine blk_drew ?_ | refine blk_alloc ?_ _)); refine blk_put (cs := #[.int .i64 t155, .int .i64 t156, .int .i64 0]) ?_ 2 _ rfl; (with_reducible repeat (first | refine blk_drewN ?_ _ | refine blk_drew ?_ | refine blk_alloc ?_ _)); refine blk_put (cs := #[.int .i64 t155, .int .i64 0, .int .i64 0]) ?_ 1 _ rfl; (with_reducible repeat (first | refine blk_drewN ?_ _ | refine blk_drew ?_ | refine blk_alloc ?_ _)); refine blk_put (cs := #[.int .i64 0, .int .i64 0, .int .i64 0]) ?_ 0 _ rfl; (with_reducible repeat (first | refine blk_drewN ?_ _ | refine blk_drew ?_ | refine blk_alloc ?_ _)); exact BK159.out) hb); have n1_ := Aside0.mk (below_step (by repeat (first | (with_reducible first | exact HB.out | apply below_alloc | apply pw_below_drewN | apply below_drew1 | refine below_set ?_ GE159.out) | exact HB.out)) hb); clear BK159; clear HB; have BK159 := n0_; have HB := n1_; clear n0_ n1_; (try clear hb); (try clear hb2); (try clear hk); (try clear hi)) | ((with_reducible refine gate_dst (N := 9) rfl ?_); refine box_event ?hg (N := 9) ?hd (cs := #[.int .i64 0, .int .i64 0, .int .i64 0]) (t := 23) ?hr ?_; (case hd => rfl); (case hg => rfl); (case hr => first | (go_simp; done) | (go_simp; rfl)); intro gb164 hg w14 hbox hb; have n0_ := Aside0.mk (blk_below (g := gb159) (o := .cells #[.int .i64 t155, .int .i64 t156, .int .i64 t157] 23 (0, 0)) (by (with_reducible repeat (first | refine blk_drewN ?_ _ | refine blk_drew ?_ | refine blk_alloc ?_ _)); exact BK159.out) hb); have n1_ := Aside0.mk (below_step (by repeat (first | (with_reducible first | exact HB.out | apply below_alloc | apply pw_below_drewN | apply below_drew1 | refine below_set ?_ GE159.out) | exact HB.out)) hb); have n2_ := Aside0.mk (hbox); have n3_ := Aside0.mk ((by rw [hg]; exact (below_size (by repeat (first | (with_reducible first | exact HB.out | apply below_alloc | apply pw_below_drewN | apply below_drew1 | refine below_set ?_ GE159.out) | exact HB.out))) : w.heap.size ≤ gb164)); have n4_ := Aside0.mk ((by rw [hg]; exact (below_size (by repeat (first | (with_reducible first | exact HB.out | apply below_alloc | apply pw_below_drewN | apply below_drew1 | refine below_set ?_ GE159.out) | exact HB.out))) : w.heap.size ≤ gb164)); have n5_ := Aside0.mk ((by rw [hg]; exact Nat.ne_of_lt (blk_lt (g := gb159) (o := .cells #[.int .i64 t155, .int .i64 t156, .int .i64 t157] 23 (0, 0)) (by (with_reducible repeat (first | refine blk_drewN ?_ _ | refine blk_drew ?_ | refine blk_alloc ?_ _)); exact BK159.out)) : gb159 ≠ gb164)); have n6_ := Aside0.mk ((by rw [hg]; exact Nat.ne_of_gt (blk_lt (g := gb159) (o := .cells #[.int .i64 t155, .int .i64 t156, .int .i64 t157] 23 (0, 0)) (by (with_reducible repeat (first | refine blk_drewN ?_ _ | refine blk_drew ?_ | refine blk_alloc ?_ _)); exact BK159.out)) : gb164 ≠ gb159)); clear BK159; clear HB; have BK159 := n0_; have HB := n1_; have BK164 := n2_; have GW164 := n3_; have GE164 := n4_; have NB159_164 := n5_; have NB164_159 := n6_; clear n0_ n1_ n2_ n3_ n4_ n5_ n6_; clear hb hbox hg; have hnb15 := NB164_159.out; have hnc15 := NB159_164.out; have hcz16_0 : w14.cell? ⟨gb164, 0, none⟩ = some (.int .i64 0) := (blk_cell BK164.out 0).trans rfl; have hcz16_1 : w14.cell? ⟨gb164, 1, none⟩ = some (.int .i64 0) := (blk_cell BK164.out 1).trans rfl; have hcz16_2 : w14.cell? ⟨gb164, 2, none⟩ = some (.int .i64 0) := (blk_cell BK164.out 2).trans rfl; have hfz16_0 := blk_frozen BK164.out 0; have hfz16_1 := blk_frozen BK164.out 1; have hfz16_2 := blk_frozen BK164.out 2; have hcz17_0 : w14.cell? ⟨gb159, 0, none⟩ = some (.int .i64 t155) := (blk_cell BK159.out 0).trans rfl; have hcz17_1 : w14.cell? ⟨gb159, 1, none⟩ = some (.int .i64 t156) := (blk_cell BK159.out 1).trans rfl; have hcz17_2 : w14.cell? ⟨gb159, 2, none⟩ = some (.int .i64 t157) := (blk_cell BK159.out 2).trans rfl; have hfz17_0 := blk_frozen BK159.out 0; have hfz17_1 := blk_frozen BK159.out 1; have hfz17_2 := blk_frozen BK159.out 2) | (go_at_call 12; (with_reducible refine (paymasterlaw06_awake.calls k  t165 _ A9.out).mono ?_); rintro e w18 ⟨rfl, hb⟩; have n0_ := Aside0.mk (blk_below (g := gb159) (o := .cells #[.int .i64 t155, .int .i64 t156, .int .i64 t157] 23 (0, 0)) (by (with_reducible repeat (first | refine blk_drewN ?_ _ | refine blk_drew ?_ | refine blk_alloc ?_ _)); refine blk_far ?_ NB159_164.out _; (with_reducible repeat (first | refine blk_drewN ?_ _ | refine blk_drew ?_ | refine blk_alloc ?_ _)); refine blk_far ?_ NB159_164.out _; (with_reducible repeat (first | refine blk_drewN ?_ _ | refine blk_drew ?_ | refine blk_alloc ?_ _)); refine blk_far ?_ NB159_164.out _; (with_reducible repeat (first | refine blk_drewN ?_ _ | refine blk_drew ?_ | refine blk_alloc ?_ _)); exact BK159.out) hb); have n1_ := Aside0.mk (blk_below (g := gb164) (o := .cells #[.int .i64 t160, .int .i64 t161, .int .i64 t162] 23 (0, 0)) (by (with_reducible repeat (first | refine blk_drewN ?_ _ | refine blk_drew ?_ | refine blk_alloc ?_ _)); refine blk_put (cs := #[.int .i64 t160, .int .i64 t161, .int .i64 0]) ?_ 2 _ rfl; (with_reducible repeat (first | refine blk_drewN ?_ _ | refine blk_drew ?_ | refine blk_alloc ?_ _)); refine blk_put (cs := #[.int .i64 t160, .int .i64 0, .int .i64 0]) ?_ 1 _ rfl; (with_reducible repeat (first | refine blk_drewN ?_ _ | refine blk_drew ?_ | refine blk_alloc ?_ _)); refine blk_put (cs := #[.int .i64 0, .int .i64 0, .int .i64 0]) ?_ 0 _ rfl; (with_reducible repeat (first | refine blk_drewN ?_ _ | refine blk_drew ?_ | refine blk_alloc ?_ _)); exact BK164.out) hb); have n2_ := Aside0.mk (below_step (by repeat (first | (with_reducible first | exact HB.out | apply below_alloc | apply pw_below_drewN | apply below_drew1 | refine below_set ?_ GE159.out | refine below_set ?_ GE164.out) | exact HB.out)) hb); clear BK159; clear BK164; clear HB; have BK159 := n0_; have BK164 := n1_; have HB := n2_; clear n0_ n1_ n2_; (try clear hb); (try clear hb2); (try clear hk); (try clear hi)))
          repeat (go_quiet (first | (go_at_call 10; (with_reducible refine (dates_Of.calls k (wrap64 (Int.tmod a0 262144)) t155 t156 t157 true _ A3.out).mono ?_); rintro e w10 ⟨rfl, hb⟩; have n0_ := Aside0.mk (below_step (by repeat (first | (with_reducible first | exact HB.out | apply below_alloc | apply pw_below_drewN | apply below_drew1) | exact HB.out)) hb); clear HB; have HB := n0_; clear n0_; (try clear hb); (try clear hb2); (try clear hk); (try clear hi)) | ((with_reducible refine gate_dst (N := 7) rfl ?_); refine box_event ?hg (N := 7) ?hd (cs := #[.int .i64 0, .int .i64 0, .int .i64 0]) (t := 23) ?hr ?_; (case hd => rfl); (case hg => rfl); (case hr => first | (go_simp; done) | (go_simp; rfl)); intro gb159 hg w11 hbox hb; have n0_ := Aside0.mk (below_step (by repeat (first | (with_reducible first | exact HB.out | apply below_alloc | apply pw_below_drewN | apply below_drew1) | exact HB.out)) hb); have n1_ := Aside0.mk (hbox); have n2_ := Aside0.mk ((by rw [hg]; exact (below_size (by repeat (first | (with_reducible first | exact HB.out | apply below_alloc | apply pw_below_drewN | apply below_drew1) | exact HB.out))) : w.heap.size ≤ gb159)); have n3_ := Aside0.mk ((by rw [hg]; exact (below_size (by repeat (first | (with_reducible first | exact HB.out | apply below_alloc | apply pw_below_drewN | apply below_drew1) | exact HB.out))) : w.heap.size ≤ gb159)); clear HB; have HB := n0_; have BK159 := n1_; have GW159 := n2_; have GE159 := n3_; clear n0_ n1_ n2_ n3_; clear hb hbox hg; have hcz12_0 : w11.cell? ⟨gb159, 0, none⟩ = some (.int .i64 0) := (blk_cell BK159.out 0).trans rfl; have hcz12_1 : w11.cell? ⟨gb159, 1, none⟩ = some (.int .i64 0) := (blk_cell BK159.out 1).trans rfl; have hcz12_2 : w11.cell? ⟨gb159, 2, none⟩ = some (.int .i64 0) := (blk_cell BK159.out 2).trans rfl; have hfz12_0 := blk_frozen BK159.out 0; have hfz12_1 := blk_frozen BK159.out 1; have hfz12_2 := blk_frozen BK159.out 2) | (go_at_call 10; (with_reducible refine (dates_Of.calls k (wrap64 (Int.tmod a1 262144)) t160 t161 t162 true _ A4.out).mono ?_); rintro e w13 ⟨rfl, hb⟩; have n0_ := Aside0.mk (blk_below (g := gb159) (o := .cells #[.int .i64 t155, .int .i64 t156, .int .i64 t157] 23 (0, 0)) (by (with_reducible repeat (first | refine blk_drewN ?_ _ | refine blk_drew ?_ | refine blk_alloc ?_ _)); refine blk_put (cs := #[.int .i64 t155, .int .i64 t156, .int .i64 0]) ?_ 2 _ rfl; (with_reducible repeat (first | refine blk_drewN ?_ _ | refine blk_drew ?_ | refine blk_alloc ?_ _)); refine blk_put (cs := #[.int .i64 t155, .int .i64 0, .int .i64 0]) ?_ 1 _ rfl; (with_reducible repeat (first | refine blk_drewN ?_ _ | refine blk_drew ?_ | refine blk_alloc ?_ _)); refine blk_put (cs := #[.int .i64 0, .int .i64 0, .int .i64 0]) ?_ 0 _ rfl; (with_reducible repeat (first | refine blk_drewN ?_ _ | refine blk_drew ?_ | refine blk_alloc ?_ _)); exact BK159.out) hb); have n1_ := Aside0.mk (below_step (by repeat (first | (with_reducible first | exact HB.out | apply below_alloc | apply pw_below_drewN | apply below_drew1 | refine below_set ?_ GE159.out) | exact HB.out)) hb); clear BK159; clear HB; have BK159 := n0_; have HB := n1_; clear n0_ n1_; (try clear hb); (try clear hb2); (try clear hk); (try clear hi)) | ((with_reducible refine gate_dst (N := 9) rfl ?_); refine box_event ?hg (N := 9) ?hd (cs := #[.int .i64 0, .int .i64 0, .int .i64 0]) (t := 23) ?hr ?_; (case hd => rfl); (case hg => rfl); (case hr => first | (go_simp; done) | (go_simp; rfl)); intro gb164 hg w14 hbox hb; have n0_ := Aside0.mk (blk_below (g := gb159) (o := .cells #[.int .i64 t155, .int .i64 t156, .int .i64 t157] 23 (0, 0)) (by (with_reducible repeat (first | refine blk_drewN ?_ _ | refine blk_drew ?_ | refine blk_alloc ?_ _)); exact BK159.out) hb); have n1_ := Aside0.mk (below_step (by repeat (first | (with_reducible first | exact HB.out | apply below_alloc | apply pw_below_drewN | apply below_drew1 | refine below_set ?_ GE159.out) | exact HB.out)) hb); have n2_ := Aside0.mk (hbox); have n3_ := Aside0.mk ((by rw [hg]; exact (below_size (by repeat (first | (with_reducible first | exact HB.out | apply below_alloc | apply pw_below_drewN | apply below_drew1 | refine below_set ?_ GE159.out) | exact HB.out))) : w.heap.size ≤ gb164)); have n4_ := Aside0.mk ((by rw [hg]; exact (below_size (by repeat (first | (with_reducible first | exact HB.out | apply below_alloc | apply pw_below_drewN | apply below_drew1 | refine below_set ?_ GE159.out) | exact HB.out))) : w.heap.size ≤ gb164)); have n5_ := Aside0.mk ((by rw [hg]; exact Nat.ne_of_lt (blk_lt (g := gb159) (o := .cells #[.int .i64 t155, .int .i64 t156, .int .i64 t157] 23 (0, 0)) (by (with_reducible repeat (first | refine blk_drewN ?_ _ | refine blk_drew ?_ | refine blk_alloc ?_ _)); exact BK159.out)) : gb159 ≠ gb164)); have n6_ := Aside0.mk ((by rw [hg]; exact Nat.ne_of_gt (blk_lt (g := gb159) (o := .cells #[.int .i64 t155, .int .i64 t156, .int .i64 t157] 23 (0, 0)) (by (with_reducible repeat (first | refine blk_drewN ?_ _ | refine blk_drew ?_ | refine blk_alloc ?_ _)); exact BK159.out)) : gb164 ≠ gb159)); clear BK159; clear HB; have BK159 := n0_; have HB := n1_; have BK164 := n2_; have GW164 := n3_; have GE164 := n4_; have NB159_164 := n5_; have NB164_159 := n6_; clear n0_ n1_ n2_ n3_ n4_ n5_ n6_; clear hb hbox hg; have hnb15 := NB164_159.out; have hnc15 := NB159_164.out; have hcz16_0 : w14.cell? ⟨gb164, 0, none⟩ = some (.int .i64 0) := (blk_cell BK164.out 0).trans rfl; have hcz16_1 : w14.cell? ⟨gb164, 1, none⟩ = some (.int .i64 0) := (blk_cell BK164.out 1).trans rfl; have hcz16_2 : w14.cell? ⟨gb164, 2, none⟩ = some (.int .i64 0) := (blk_cell BK164.out 2).trans rfl; have hfz16_0 := blk_frozen BK164.out 0; have hfz16_1 := blk_frozen BK164.out 1; have hfz16_2 := blk_frozen BK164.out 2; have hcz17_0 : w14.cell? ⟨gb159, 0, none⟩ = some (.int .i64 t155) := (blk_cell BK159.out 0).trans rfl; have hcz17_1 : w14.cell? ⟨gb159, 1, none⟩ = some (.int .i64 t156) := (blk_cell BK159.out 1).trans rfl; have hcz17_2 : w14.cell? ⟨gb159, 2, none⟩ = some (.int .i64 t157) := (blk_cell BK159.out 2).trans rfl; have hfz17_0 := blk_frozen BK159.out 0; have hfz17_1 := blk_frozen BK159.out 1; have hfz17_2 := blk_frozen BK159.out 2) | (go_at_call 12; (with_reducible refine (paymasterlaw06_awake.calls k  t165 _ A9.out).mono ?_); rintro e w18 ⟨rfl, hb⟩; have n0_ := Aside0.mk (blk_below (g := gb159) (o := .cells #[.int .i64 t155, .int .i64 t156, .int .i64 t157] 23 (0, 0)) (by (with_reducible repeat (first | refine blk_drewN ?_ _ | refine blk_drew ?_ | refine blk_alloc ?_ _)); refine blk_far ?_ NB159_164.out _; (with_reducible repeat (first | refine blk_drewN ?_ _ | refine blk_drew ?_ | refine blk_alloc ?_ _)); refine blk_far ?_ NB159_164.out _; (with_reducible repeat (first | refine blk_drewN ?_ _ | refine blk_drew ?_ | refine blk_alloc ?_ _)); refine blk_far ?_ NB159_164.out _; (with_reducible repeat (first | refine blk_drewN ?_ _ | refine blk_drew ?_ | refine blk_alloc ?_ _)); exact BK159.out) hb); have n1_ := Aside0.mk (blk_below (g := gb164) (o := .cells #[.int .i64 t160, .int .i64 t161, .int .i64 t162] 23 (0, 0)) (by (with_reducible repeat (first | refine blk_drewN ?_ _ | refine blk_drew ?_ | refine blk_alloc ?_ _)); refine blk_put (cs := #[.int .i64 t160, .int .i64 t161, .int .i64 0]) ?_ 2 _ rfl; (with_reducible repeat (first | refine blk_drewN ?_ _ | refine blk_drew ?_ | refine blk_alloc ?_ _)); refine blk_put (cs := #[.int .i64 t160, .int .i64 0, .int .i64 0]) ?_ 1 _ rfl; (with_reducible repeat (first | refine blk_drewN ?_ _ | refine blk_drew ?_ | refine blk_alloc ?_ _)); refine blk_put (cs := #[.int .i64 0, .int .i64 0, .int .i64 0]) ?_ 0 _ rfl; (with_reducible repeat (first | refine blk_drewN ?_ _ | refine blk_drew ?_ | refine blk_alloc ?_ _)); exact BK164.out) hb); have n2_ := Aside0.mk (below_step (by repeat (first | (with_reducible first | exact HB.out | apply below_alloc | apply pw_below_drewN | apply below_drew1 | refine below_set ?_ GE159.out | refine below_set ?_ GE164.out) | exact HB.out)) hb); clear BK159; clear BK164; clear HB; have BK159 := n0_; have BK164 := n1_; have HB := n2_; clear n0_ n1_ n2_; (try clear hb); (try clear hb2); (try clear hk); (try clear hi))); try go_wp2_with (first | (go_at_call 10; (with_reducible refine (dates_Of.calls k (wrap64 (Int.tmod a0 262144)) t155 t156 t157 true _ A3.out).mono ?_); rintro e w10 ⟨rfl, hb⟩; have n0_ := Aside0.mk (below_step (by repeat (first | (with_reducible first | exact HB.out | apply below_alloc | apply pw_below_drewN | apply below_drew1) | exact HB.out)) hb); clear HB; have HB := n0_; clear n0_; (try clear hb); (try clear hb2); (try clear hk); (try clear hi)) | ((with_reducible refine gate_dst (N := 7) rfl ?_); refine box_event ?hg (N := 7) ?hd (cs := #[.int .i64 0, .int .i64 0, .int .i64 0]) (t := 23) ?hr ?_; (case hd => rfl); (case hg => rfl); (case hr => first | (go_simp; done) | (go_simp; rfl)); intro gb159 hg w11 hbox hb; have n0_ := Aside0.mk (below_step (by repeat (first | (with_reducible first | exact HB.out | apply below_alloc | apply pw_below_drewN | apply below_drew1) | exact HB.out)) hb); have n1_ := Aside0.mk (hbox); have n2_ := Aside0.mk ((by rw [hg]; exact (below_size (by repeat (first | (with_reducible first | exact HB.out | apply below_alloc | apply pw_below_drewN | apply below_drew1) | exact HB.out))) : w.heap.size ≤ gb159)); have n3_ := Aside0.mk ((by rw [hg]; exact (below_size (by repeat (first | (with_reducible first | exact HB.out | apply below_alloc | apply pw_below_drewN | apply below_drew1) | exact HB.out))) : w.heap.size ≤ gb159)); clear HB; have HB := n0_; have BK159 := n1_; have GW159 := n2_; have GE159 := n3_; clear n0_ n1_ n2_ n3_; clear hb hbox hg; have hcz12_0 : w11.cell? ⟨gb159, 0, none⟩ = some (.int .i64 0) := (blk_cell BK159.out 0).trans rfl; have hcz12_1 : w11.cell? ⟨gb159, 1, none⟩ = some (.int .i64 0) := (blk_cell BK159.out 1).trans rfl; have hcz12_2 : w11.cell? ⟨gb159, 2, none⟩ = some (.int .i64 0) := (blk_cell BK159.out 2).trans rfl; have hfz12_0 := blk_frozen BK159.out 0; have hfz12_1 := blk_frozen BK159.out 1; have hfz12_2 := blk_frozen BK159.out 2) | (go_at_call 10; (with_reducible refine (dates_Of.calls k (wrap64 (Int.tmod a1 262144)) t160 t161 t162 true _ A4.out).mono ?_); rintro e w13 ⟨rfl, hb⟩; have n0_ := Aside0.mk (blk_below (g := gb159) (o := .cells #[.int .i64 t155, .int .i64 t156, .int .i64 t157] 23 (0, 0)) (by (with_reducible repeat (first | refine blk_drewN ?_ _ | refine blk_drew ?_ | refine blk_alloc ?_ _)); refine blk_put (cs := #[.int .i64 t155, .int .i64 t156, .int .i64 0]) ?_ 2 _ rfl; (with_reducible repeat (first | refine blk_drewN ?_ _ | refine blk_drew ?_ | refine blk_alloc ?_ _)); refine blk_put (cs := #[.int .i64 t155, .int .i64 0, .int .i64 0]) ?_ 1 _ rfl; (with_reducible repeat (first | refine blk_drewN ?_ _ | refine blk_drew ?_ | refine blk_alloc ?_ _)); refine blk_put (cs := #[.int .i64 0, .int .i64 0, .int .i64 0]) ?_ 0 _ rfl; (with_reducible repeat (first | refine blk_drewN ?_ _ | refine blk_drew ?_ | refine blk_alloc ?_ _)); exact BK159.out) hb); have n1_ := Aside0.mk (below_step (by repeat (first | (with_reducible first | exact HB.out | apply below_alloc | apply pw_below_drewN | apply below_drew1 | refine below_set ?_ GE159.out) | exact HB.out)) hb); clear BK159; clear HB; have BK159 := n0_; have HB := n1_; clear n0_ n1_; (try clear hb); (try clear hb2); (try clear hk); (try clear hi)) | ((with_reducible refine gate_dst (N := 9) rfl ?_); refine box_event ?hg (N := 9) ?hd (cs := #[.int .i64 0, .int .i64 0, .int .i64 0]) (t := 23) ?hr ?_; (case hd => rfl); (case hg => rfl); (case hr => first | (go_simp; done) | (go_simp; rfl)); intro gb164 hg w14 hbox hb; have n0_ := Aside0.mk (blk_below (g := gb159) (o := .cells #[.int .i64 t155, .int .i64 t156, .int .i64 t157] 23 (0, 0)) (by (with_reducible repeat (first | refine blk_drewN ?_ _ | refine blk_drew ?_ | refine blk_alloc ?_ _)); exact BK159.out) hb); have n1_ := Aside0.mk (below_step (by repeat (first | (with_reducible first | exact HB.out | apply below_alloc | apply pw_below_drewN | apply below_drew1 | refine below_set ?_ GE159.out) | exact HB.out)) hb); have n2_ := Aside0.mk (hbox); have n3_ := Aside0.mk ((by rw [hg]; exact (below_size (by repeat (first | (with_reducible first | exact HB.out | apply below_alloc | apply pw_below_drewN | apply below_drew1 | refine below_set ?_ GE159.out) | exact HB.out))) : w.heap.size ≤ gb164)); have n4_ := Aside0.mk ((by rw [hg]; exact (below_size (by repeat (first | (with_reducible first | exact HB.out | apply below_alloc | apply pw_below_drewN | apply below_drew1 | refine below_set ?_ GE159.out) | exact HB.out))) : w.heap.size ≤ gb164)); have n5_ := Aside0.mk ((by rw [hg]; exact Nat.ne_of_lt (blk_lt (g := gb159) (o := .cells #[.int .i64 t155, .int .i64 t156, .int .i64 t157] 23 (0, 0)) (by (with_reducible repeat (first | refine blk_drewN ?_ _ | refine blk_drew ?_ | refine blk_alloc ?_ _)); exact BK159.out)) : gb159 ≠ gb164)); have n6_ := Aside0.mk ((by rw [hg]; exact Nat.ne_of_gt (blk_lt (g := gb159) (o := .cells #[.int .i64 t155, .int .i64 t156, .int .i64 t157] 23 (0, 0)) (by (with_reducible repeat (first | refine blk_drewN ?_ _ | refine blk_drew ?_ | refine blk_alloc ?_ _)); exact BK159.out)) : gb164 ≠ gb159)); clear BK159; clear HB; have BK159 := n0_; have HB := n1_; have BK164 := n2_; have GW164 := n3_; have GE164 := n4_; have NB159_164 := n5_; have NB164_159 := n6_; clear n0_ n1_ n2_ n3_ n4_ n5_ n6_; clear hb hbox hg; have hnb15 := NB164_159.out; have hnc15 := NB159_164.out; have hcz16_0 : w14.cell? ⟨gb164, 0, none⟩ = some (.int .i64 0) := (blk_cell BK164.out 0).trans rfl; have hcz16_1 : w14.cell? ⟨gb164, 1, none⟩ = some (.int .i64 0) := (blk_cell BK164.out 1).trans rfl; have hcz16_2 : w14.cell? ⟨gb164, 2, none⟩ = some (.int .i64 0) := (blk_cell BK164.out 2).trans rfl; have hfz16_0 := blk_frozen BK164.out 0; have hfz16_1 := blk_frozen BK164.out 1; have hfz16_2 := blk_frozen BK164.out 2; have hcz17_0 : w14.cell? ⟨gb159, 0, none⟩ = some (.int .i64 t155) := (blk_cell BK159.out 0).trans rfl; have hcz17_1 : w14.cell? ⟨gb159, 1, none⟩ = some (.int .i64 t156) := (blk_cell BK159.out 1).trans rfl; have hcz17_2 : w14.cell? ⟨gb159, 2, none⟩ = some (.int .i64 t157) := (blk_cell BK159.out 2).trans rfl; have hfz17_0 := blk_frozen BK159.out 0; have hfz17_1 := blk_frozen BK159.out 1; have hfz17_2 := blk_frozen BK159.out 2) | (go_at_call 12; (with_reducible refine (paymasterlaw06_awake.calls k  t165 _ A9.out).mono ?_); rintro e w18 ⟨rfl, hb⟩; have n0_ := Aside0.mk (blk_below (g := gb159) (o := .cells #[.int .i64 t155, .int .i64 t156, .int .i64 t157] 23 (0, 0)) (by (with_reducible repeat (first | refine blk_drewN ?_ _ | refine blk_drew ?_ | refine blk_alloc ?_ _)); refine blk_far ?_ NB159_164.out _; (with_reducible repeat (first | refine blk_drewN ?_ _ | refine blk_drew ?_ | refine blk_alloc ?_ _)); refine blk_far ?_ NB159_164.out _; (with_reducible repeat (first | refine blk_drewN ?_ _ | refine blk_drew ?_ | refine blk_alloc ?_ _)); refine blk_far ?_ NB159_164.out _; (with_reducible repeat (first | refine blk_drewN ?_ _ | refine blk_drew ?_ | refine blk_alloc ?_ _)); exact BK159.out) hb); have n1_ := Aside0.mk (blk_below (g := gb164) (o := .cells #[.int .i64 t160, .int .i64 t161, .int .i64 t162] 23 (0, 0)) (by (with_reducible repeat (first | refine blk_drewN ?_ _ | refine blk_drew ?_ | refine blk_alloc ?_ _)); refine blk_put (cs := #[.int .i64 t160, .int .i64 t161, .int .i64 0]) ?_ 2 _ rfl; (with_reducible repeat (first | refine blk_drewN ?_ _ | refine blk_drew ?_ | refine blk_alloc ?_ _)); refine blk_put (cs := #[.int .i64 t160, .int .i64 0, .int .i64 0]) ?_ 1 _ rfl; (with_reducible repeat (first | refine blk_drewN ?_ _ | refine blk_drew ?_ | refine blk_alloc ?_ _)); refine blk_put (cs := #[.int .i64 0, .int .i64 0, .int .i64 0]) ?_ 0 _ rfl; (with_reducible repeat (first | refine blk_drewN ?_ _ | refine blk_drew ?_ | refine blk_alloc ?_ _)); exact BK164.out) hb); have n2_ := Aside0.mk (below_step (by repeat (first | (with_reducible first | exact HB.out | apply below_alloc | apply pw_below_drewN | apply below_drew1 | refine below_set ?_ GE159.out | refine below_set ?_ GE164.out) | exact HB.out)) hb); clear BK159; clear BK164; clear HB; have BK159 := n0_; have BK164 := n1_; have HB := n2_; clear n0_ n1_ n2_; (try clear hb); (try clear hb2); (try clear hk); (try clear hi))))
          go_ret
          exact ⟨by first | rfl | (simp [errW_none, errW_some] <;> rfl) | (simp [*, errW_none, errW_some] <;> rfl), by repeat (first | (with_reducible first | exact HB.out | apply below_alloc | apply pw_below_drewN | apply below_drew1 | refine below_set ?_ GE159.out | refine below_set ?_ GE164.out) | exact HB.out)⟩
        · rw [if_neg c8] at H
          exact absurd H (by simp)
      · rw [if_neg c7] at H
        exact absurd H (by simp)
    · replace c6 := Bool.eq_false_iff.mpr c6
      subst c6
      have H1 : (none) = some r := by rw [if_neg (show ¬ (false = true) by decide)] at H; exact H
      clear H
      have H := H1
      clear H1
      exact absurd H (by simp)
  · replace c5 := Bool.eq_false_iff.mpr c5
    subst c5
    have H1 : (none) = some r := by rw [if_neg (show ¬ (false = true) by decide)] at H; exact H
    clear H
    have H := H1
    clear H1
    exact absurd H (by simp)

/-- THE ONE PURE STATEMENT of paymasterlaw06_DatesOrder: yours. -/
def paymasterlaw06_DatesOrder.Pure : Prop := ∀ (a0 : Int) (a1 : Int), (Lit.int .u32 a0).wf = true → (Lit.int .u32 a1).wf = true → ∃ k, paymasterlaw06_DatesOrder.f k a0 a1 = some true
theorem paymasterlaw06_DatesOrder.walk (P : paymasterlaw06_DatesOrder.Pure) (a0 : Int) (a1 : Int) (w : World) (w0 : (Lit.int .u32 a0).wf = true) (w1 : (Lit.int .u32 a1).wf = true) :
    Calls Try.prog 4 #[.int .u32 a0, .int .u32 a1] w fun e w' => e = .returned (.bool true) ∧ Below w.heap.size w w' := by
  obtain ⟨k, h⟩ := P a0 a1 w0 w1
  refine (paymasterlaw06_DatesOrder.calls k a0 a1 true w h).mono ?_
  rintro e w' ⟨rfl, hd⟩
  exact ⟨rfl, hd⟩

/-! ### paymasterlaw06_DatesLeap: function 5 -/
mutual
def paymasterlaw06_DatesLeap.l0 : Nat → Int → Int → Int → Option (Bool)
  | 0, _, _, _ => none
  | k + 1, x3, x4, x12 => if x12 < 400 then (paymasterlaw06_DatesLeap.l1 k x3 x4 x12 0 1 x12) else (if x4 = 97 then ((dates_Length.f k x3 2).bind fun t166 => ((dates_Length.f k (wrap64 (x3 + 400)) 2).bind fun t167 => (if t166 = t167 then ((paymasterlaw06_awake.f k).bind fun t168 => (some t168)) else (none)))) else (none))
def paymasterlaw06_DatesLeap.l1 : Nat → Int → Int → Int → Int → Int → Int → Option (Bool)
  | 0, _, _, _, _, _, _ => none
  | k + 1, x3, x4, x5, x6, x7, x12 => if x7 ≤ 12 then ((dates_Length.f k (wrap64 (x3 + x5)) x7).bind fun t169 => (paymasterlaw06_DatesLeap.l1 k x3 x4 x5 (wrap64 (x6 + t169)) (wrap64 (x7 + 1)) x12)) else (if x6 = 365 then (paymasterlaw06_DatesLeap.l0 k x3 (wrap64 (x4 + (wrap64 (x6 - 365)))) (wrap64 (x12 + 1))) else (if x6 = 366 then (paymasterlaw06_DatesLeap.l0 k x3 (wrap64 (x4 + (wrap64 (x6 - 365)))) (wrap64 (x12 + 1))) else (none)))
end
def paymasterlaw06_DatesLeap.f (k : Nat) (a0 : Int) : Option (Bool) := paymasterlaw06_DatesLeap.l0 k (wrap64 (1900 + (Int.tmod (wrap64 (a0)) 700))) 0 0
theorem paymasterlaw06_DatesLeap.mono_l : ∀ k, (∀ y0 y1 y2, LeO (paymasterlaw06_DatesLeap.l0 k y0 y1 y2) (paymasterlaw06_DatesLeap.l0 (k + 1) y0 y1 y2)) ∧ (∀ y0 y1 y2 y3 y4 y5, LeO (paymasterlaw06_DatesLeap.l1 k y0 y1 y2 y3 y4 y5) (paymasterlaw06_DatesLeap.l1 (k + 1) y0 y1 y2 y3 y4 y5))
  | 0 => ⟨fun _ _ _ r h => by simp [paymasterlaw06_DatesLeap.l0] at h, fun _ _ _ _ _ _ r h => by simp [paymasterlaw06_DatesLeap.l1] at h⟩
  | k + 1 => by
    obtain ⟨ih0, ih1⟩ := paymasterlaw06_DatesLeap.mono_l k
    refine ⟨?_, ?_⟩
    · intro y0 y1 y2
      unfold paymasterlaw06_DatesLeap.l0
      repeat' first
      | (with_reducible exact ih0 _ _ _)
      | (with_reducible exact ih1 _ _ _ _ _ _)
      | (with_reducible exact dates_Length.mono _ _ _)
      | (with_reducible exact paymasterlaw06_awake.mono _)
      | (with_reducible exact LeO.refl _)
      | (with_reducible exact LeO.none _)
      | (with_reducible refine LeO.ite ?_ ?_)
      | (with_reducible refine LeO.bind ?_ (fun _ => ?_))
      | exact ih0 _ _ _
      | exact ih1 _ _ _ _ _ _
      | exact dates_Length.mono _ _ _
      | exact paymasterlaw06_awake.mono _
      | exact LeO.none _
      | refine LeO.ite ?_ ?_
      | refine LeO.bind ?_ (fun _ => ?_)
    · intro y0 y1 y2 y3 y4 y5
      unfold paymasterlaw06_DatesLeap.l1
      repeat' first
      | (with_reducible exact ih0 _ _ _)
      | (with_reducible exact ih1 _ _ _ _ _ _)
      | (with_reducible exact dates_Length.mono _ _ _)
      | (with_reducible exact paymasterlaw06_awake.mono _)
      | (with_reducible exact LeO.refl _)
      | (with_reducible exact LeO.none _)
      | (with_reducible refine LeO.ite ?_ ?_)
      | (with_reducible refine LeO.bind ?_ (fun _ => ?_))
      | exact ih0 _ _ _
      | exact ih1 _ _ _ _ _ _
      | exact dates_Length.mono _ _ _
      | exact paymasterlaw06_awake.mono _
      | exact LeO.none _
      | refine LeO.ite ?_ ?_
      | refine LeO.bind ?_ (fun _ => ?_)
theorem paymasterlaw06_DatesLeap.mono : ∀ a0 k, LeO (paymasterlaw06_DatesLeap.f k a0) (paymasterlaw06_DatesLeap.f (k + 1) a0) := by
  intro a0 k
  obtain ⟨ih0, ih1⟩ := paymasterlaw06_DatesLeap.mono_l k
  unfold paymasterlaw06_DatesLeap.f
  repeat' first
      | (with_reducible exact ih0 _ _ _)
      | (with_reducible exact ih1 _ _ _ _ _ _)
      | (with_reducible exact dates_Length.mono _ _ _)
      | (with_reducible exact paymasterlaw06_awake.mono _)
      | (with_reducible exact LeO.refl _)
      | (with_reducible exact LeO.none _)
      | (with_reducible refine LeO.ite ?_ ?_)
      | (with_reducible refine LeO.bind ?_ (fun _ => ?_))
      | exact ih0 _ _ _
      | exact ih1 _ _ _ _ _ _
      | exact dates_Length.mono _ _ _
      | exact paymasterlaw06_awake.mono _
      | exact LeO.none _
      | refine LeO.ite ?_ ?_
      | refine LeO.bind ?_ (fun _ => ?_)
set_option maxHeartbeats 8000000 in
set_option maxRecDepth 100000 in
theorem paymasterlaw06_DatesLeap.calls (k : Nat) (a0 : Int) (r : Bool) (w : World) (h : paymasterlaw06_DatesLeap.f k a0 = some r) :
    Calls Try.prog 5 #[.int .u16 a0] w fun e w' => e = .returned (.bool r) ∧ Below w.heap.size w w' := by
  have HB := Aside0.mk (Below.refl w.heap.size w)
  have H : (paymasterlaw06_DatesLeap.l0 k (wrap64 (1900 + (Int.tmod (wrap64 (a0)) 700))) 0 0) = some r := h
  clear h
  have H' := Aside0.mk H
  clear H
  go_enter Try.func5, Try.ntmps5
  go_wp2
  go_loopg [4, 12] k (fun kq v4 v12 w' => ∃ (x4_1 : Int) (x12_1 : Int), v4 = .int .i64 x4_1 ∧ v12 = .int .i64 x12_1 ∧ Aside0 (paymasterlaw06_DatesLeap.l0 kq (wrap64 (1900 + (Int.tmod (wrap64 (a0)) 700))) x4_1 x12_1 = some r) ∧ Aside0 (kq ≤ k) ∧ Aside0 (Below w.heap.size w w'))
  case atStart => exact ⟨(0), (0), (by first | rfl | (simp; done) | (simp [*]; done)), (by first | rfl | (simp; done) | (simp [*]; done)), H', ⟨Nat.le_refl _⟩, ⟨by repeat (first | (with_reducible first | exact HB.out | apply below_alloc | apply pw_below_drewN | apply below_drew1) | exact HB.out)⟩⟩
  case round =>
    clear H'
    obtain ⟨x4_1, x12_1, rfl, rfl, HA, HK1, HB⟩ := hrel
    cases gk with
    | zero => exact absurd HA.out (by simp [paymasterlaw06_DatesLeap.l0])
    | succ k1 =>
      have H := HA.out
      clear HA
      simp only [paymasterlaw06_DatesLeap.l0] at H
      by_cases c2 : x12_1 < 400
      · rw [if_pos c2] at H
        have c2b0 : decide (x12_1 < 400) = true := decide_eq_true c2
        clear c2
        have H' := Aside0.mk H
        clear H
        go_wp2
        go_loopg [6, 7] k1 (fun kq v6 v7 w' => ∃ (x6_2 : Int) (x7_2 : Int), v6 = .int .i64 x6_2 ∧ v7 = .int .i64 x7_2 ∧ Aside0 (paymasterlaw06_DatesLeap.l1 kq (wrap64 (1900 + (Int.tmod (wrap64 (a0)) 700))) x4_1 x12_1 x6_2 x7_2 x12_1 = some r) ∧ Aside0 (kq ≤ k1) ∧ Aside0 (Below w.heap.size w w'))
        case atStart => exact ⟨(0), (1), (by first | rfl | (simp; done) | (simp [*]; done)), (by first | rfl | (simp; done) | (simp [*]; done)), H', ⟨Nat.le_refl _⟩, ⟨by repeat (first | (with_reducible first | exact HB.out | apply below_alloc | apply pw_below_drewN | apply below_drew1) | exact HB.out)⟩⟩
        case round =>
          clear H'
          try clear c2
          try clear c2b0
          try clear p2
          obtain ⟨x6_2, x7_2, rfl, rfl, HA, HK2, HB⟩ := hrel
          cases gk with
          | zero => exact absurd HA.out (by simp [paymasterlaw06_DatesLeap.l1])
          | succ k2 =>
            have H := HA.out
            clear HA
            simp only [paymasterlaw06_DatesLeap.l1] at H
            by_cases c3 : x7_2 ≤ 12
            · rw [if_pos c3] at H
              have c3b0 : decide (x7_2 ≤ 12) = true := decide_eq_true c3
              clear c3
              replace H := Option.bind_eq_some_iff.mp H
              obtain ⟨t169, A40, H⟩ := H
              replace H : (paymasterlaw06_DatesLeap.l1 k2 (wrap64 (1900 + (Int.tmod (wrap64 (a0)) 700))) x4_1 x12_1 (wrap64 (x6_2 + t169)) (wrap64 (x7_2 + 1)) x12_1) = some r := H
              have A4 := Aside0.mk A40
              clear A40
              have H' := Aside0.mk H
              clear H
              go_wp2_with (first | ((with_reducible refine gate_callee (f := 15) rfl ?_); refine goesL_ (some 24) rfl rfl Try.func15 (by kernel_rfl) rfl #[.int .i64 (wrap64 ((wrap64 (1900 + (Int.tmod (wrap64 (a0)) 700))) + x12_1)), .int .i64 x7_2] rfl (by (try simp only [List.map_toArray, List.map_cons, List.map_nil]); first | done | rfl | (simp only [List.length_drop, List.length_take]; rfl)) ?_; (with_reducible refine (dates_Length.calls k2 (wrap64 ((wrap64 (1900 + (Int.tmod (wrap64 (a0)) 700))) + x12_1)) x7_2 t169 _ A4.out).mono ?_); rintro e w' ⟨rfl, ⟨nd, rfl⟩⟩; refine ⟨_, rfl, ?_⟩))
              go_roundg k2
              case measure => have := HK1.out; have := HK2.out; omega
              case rel => exact ⟨(wrap64 (x6_2 + t169)), (wrap64 (x7_2 + 1)), (by first | rfl | (simp; done) | (simp [*]; done)), (by first | rfl | (simp; done) | (simp [*]; done)), H', ⟨by have := HK1.out; have := HK2.out; omega⟩, ⟨by repeat (first | (with_reducible first | exact HB.out | apply below_alloc | apply pw_below_drewN | apply below_drew1) | exact HB.out)⟩⟩
            · rw [if_neg c3] at H
              have c3b0 : decide (x7_2 ≤ 12) = false := decide_eq_false c3
              clear c3
              by_cases c5 : x6_2 = 365
              · rw [if_pos c5] at H
                have c5b0 : (x6_2 == 365) = true := beq_iff_eq.mpr c5
                have c5b1 : (x6_2 != 365) = false := bne_eq_false_iff_eq.mpr c5
                clear c5
                have H' := Aside0.mk H
                clear H
                go_wp2
                go_roundg k2
                case measure => have := HK1.out; have := HK2.out; omega
                case rel => exact ⟨(wrap64 (x4_1 + (wrap64 (x6_2 - 365)))), (wrap64 (x12_1 + 1)), (by first | rfl | (simp; done) | (simp [*]; done)), (by first | rfl | (simp; done) | (simp [*]; done)), H', ⟨by have := HK1.out; have := HK2.out; omega⟩, ⟨by repeat (first | (with_reducible first | exact HB.out | apply below_alloc | apply pw_below_drewN | apply below_drew1) | exact HB.out)⟩⟩
              · rw [if_neg c5] at H
                have c5b0 : (x6_2 == 365) = false := beq_eq_false_iff_ne.mpr c5
                have c5b1 : (x6_2 != 365) = true := bne_iff_ne.mpr c5
                by_cases c6 : x6_2 = 366
                · rw [if_pos c6] at H
                  have c6b0 : (x6_2 == 366) = true := beq_iff_eq.mpr c6
                  have c6b1 : (x6_2 != 366) = false := bne_eq_false_iff_eq.mpr c6
                  clear c6
                  have H' := Aside0.mk H
                  clear H
                  go_wp2
                  go_roundg k2
                  case measure => have := HK1.out; have := HK2.out; omega
                  case rel => exact ⟨(wrap64 (x4_1 + (wrap64 (x6_2 - 365)))), (wrap64 (x12_1 + 1)), (by first | rfl | (simp; done) | (simp [*]; done)), (by first | rfl | (simp; done) | (simp [*]; done)), H', ⟨by have := HK1.out; have := HK2.out; omega⟩, ⟨by repeat (first | (with_reducible first | exact HB.out | apply below_alloc | apply pw_below_drewN | apply below_drew1) | exact HB.out)⟩⟩
                · rw [if_neg c6] at H
                  exact absurd H (by simp)
      · rw [if_neg c2] at H
        have c2b0 : decide (x12_1 < 400) = false := decide_eq_false c2
        clear c2
        by_cases c7 : x4_1 = 97
        · rw [if_pos c7] at H
          have c7b0 : (x4_1 == 97) = true := beq_iff_eq.mpr c7
          have c7b1 : (x4_1 != 97) = false := bne_eq_false_iff_eq.mpr c7
          clear c7
          replace H := Option.bind_eq_some_iff.mp H
          obtain ⟨t166, A80, H⟩ := H
          replace H : ((dates_Length.f k1 (wrap64 ((wrap64 (1900 + (Int.tmod (wrap64 (a0)) 700))) + 400)) 2).bind fun t167 => (if t166 = t167 then ((paymasterlaw06_awake.f k1).bind fun t168 => (some t168)) else (none))) = some r := H
          have A8 := Aside0.mk A80
          clear A80
          replace H := Option.bind_eq_some_iff.mp H
          obtain ⟨t167, A90, H⟩ := H
          replace H : (if t166 = t167 then ((paymasterlaw06_awake.f k1).bind fun t168 => (some t168)) else (none)) = some r := H
          have A9 := Aside0.mk A90
          clear A90
          by_cases c10 : t166 = t167
          · rw [if_pos c10] at H
            have c10b0 : (t166 == t167) = true := beq_iff_eq.mpr c10
            have c10b1 : (t166 != t167) = false := bne_eq_false_iff_eq.mpr c10
            clear c10
            replace H := Option.bind_eq_some_iff.mp H
            obtain ⟨t168, A110, H⟩ := H
            replace H : (some t168) = some r := H
            have A11 := Aside0.mk A110
            clear A110
            obtain rfl := Option.some.inj H
            go_wp2_with (first | (go_at_call 15; (with_reducible refine (dates_Length.calls k1 (wrap64 (1900 + (Int.tmod (wrap64 (a0)) 700))) 2 t166 _ A8.out).mono ?_); rintro e w' ⟨rfl, ⟨nd, rfl⟩⟩) | (go_at_call 15; (with_reducible refine (dates_Length.calls k1 (wrap64 ((wrap64 (1900 + (Int.tmod (wrap64 (a0)) 700))) + 400)) 2 t167 _ A9.out).mono ?_); rintro e w' ⟨rfl, ⟨nd, rfl⟩⟩) | (go_at_call 12; (with_reducible refine (paymasterlaw06_awake.calls k1  t168 _ A11.out).mono ?_); rintro e w12 ⟨rfl, hb⟩; have n0_ := Aside0.mk (below_step (by repeat (first | (with_reducible first | exact HB.out | apply below_alloc | apply pw_below_drewN | apply below_drew1) | exact HB.out)) hb); clear HB; have HB := n0_; clear n0_; (try clear hb); (try clear hb2); (try clear hk); (try clear hi)))
            go_ret
            exact ⟨by first | rfl | (simp [errW_none, errW_some] <;> rfl) | (simp [*, errW_none, errW_some] <;> rfl), by repeat (first | (with_reducible first | exact HB.out | apply below_alloc | apply pw_below_drewN | apply below_drew1) | exact HB.out)⟩
          · rw [if_neg c10] at H
            exact absurd H (by simp)
        · rw [if_neg c7] at H
          exact absurd H (by simp)

/-- THE ONE PURE STATEMENT of paymasterlaw06_DatesLeap: yours. -/
def paymasterlaw06_DatesLeap.Pure : Prop := ∀ (a0 : Int), (Lit.int .u16 a0).wf = true → ∃ k, paymasterlaw06_DatesLeap.f k a0 = some true
theorem paymasterlaw06_DatesLeap.walk (P : paymasterlaw06_DatesLeap.Pure) (a0 : Int) (w : World) (w0 : (Lit.int .u16 a0).wf = true) :
    Calls Try.prog 5 #[.int .u16 a0] w fun e w' => e = .returned (.bool true) ∧ Below w.heap.size w w' := by
  obtain ⟨k, h⟩ := P a0 w0
  refine (paymasterlaw06_DatesLeap.calls k a0 true w h).mono ?_
  rintro e w' ⟨rfl, hd⟩
  exact ⟨rfl, hd⟩

end Go.Proofs.Ytkfhclichfjhmaa.PA
