/- Contracts of the functions of the given program: written by wip/pmprint.py, a program of this session, which runs the print of the kit over altered functions. -/
import Derived.Test.YtkfhclichfjhmaaPAx0
import Derived.Test.YtkfhclichfjhmaaPAx2
import Derived.Test.YtkfhclichfjhmaaPAx3
import Derived.Test.YtkfhclichfjhmaaPAx8
namespace Go.Proofs.Ytkfhclichfjhmaa.PA
open Go.RowKit Go.Proofs.YtkfhclichfjhmaaW.PrintWords Go.Proofs.YtkfhclichfjhmaaW.PrintLast Go.Proofs.YtkfhclichfjhmaaW.PrintMore
attribute [local go_sem] max2_int min2_int max_two min_two max_three min_three max_four min_four   -- for this text's walks alone
set_option linter.unusedVariables false
set_option linter.unusedSimpArgs false

/-! ### paymasterlaw06_DatesYears: function 8 -/
def paymasterlaw06_DatesYears.l0 : Nat → Int → Int → Bool → Int → Bool → Int → Int → Int → Int → Int → Int → Int → Int → Option (Bool)
  | 0, _, _, _, _, _, _, _, _, _, _, _, _, _ => none
  | k + 1, x3, x6, x7, x8, x9, x10, x11, x212000, x212001, x212002, x213000, x213001, x213002 => if x11 ≤ 12 then ((dates_Days.f k x212000 x212001 x212002 x213000 x213001 x213002 (wrap64 ((wrap64 ((wrap64 (12 * x3)) + x11)) - 1))).bind fun t217 => ((dates_Length.f k x3 x11).bind fun t218 => (if t217 = t218 then (paymasterlaw06_DatesYears.l0 k x3 x6 x7 x8 x9 (wrap64 (x10 + t217)) (wrap64 (x11 + 1)) x212000 x212001 x212002 x213000 x213001 x213002) else (none)))) else (if x7 = true then (if x9 = true then (if x10 = (wrap64 ((wrap64 (x8 - x6)) + 1)) then ((dates_Days.f k x212000 x212001 x212002 x213000 x213001 x213002 (wrap64 ((wrap64 (12 * x3)) - 1))).bind fun t219 => (if t219 = 0 then ((dates_Days.f k x212000 x212001 x212002 x213000 x213001 x213002 (wrap64 ((wrap64 (12 * x3)) + 12))).bind fun t220 => (if t220 = 0 then ((dates_Days.f k x213000 x213001 x213002 x212000 x212001 x212002 (wrap64 (12 * x3))).bind fun t221 => (if t221 = 0 then ((paymasterlaw06_awake.f k).bind fun t222 => (some t222)) else (none))) else (none))) else (none))) else (none)) else (none)) else (none))
def paymasterlaw06_DatesYears.f (k : Nat) (a0 : Int) : Option (Bool) := (dates_Number.f k (wrap64 (1900 + (Int.tmod (wrap64 (a0)) 1100))) 1 1).bind fun bt213 => ((dates_Number.f k (wrap64 (1900 + (Int.tmod (wrap64 (a0)) 1100))) 12 31).bind fun bt215 => (paymasterlaw06_DatesYears.l0 k (wrap64 (1900 + (Int.tmod (wrap64 (a0)) 1100))) bt213.1 bt213.2 bt215.1 bt215.2 0 1 (wrap64 (1900 + (Int.tmod (wrap64 (a0)) 1100))) 1 1 (wrap64 (1900 + (Int.tmod (wrap64 (a0)) 1100))) 12 31))
theorem paymasterlaw06_DatesYears.mono_l : ∀ k, (∀ y0 y1 y2 y3 y4 y5 y6 y7 y8 y9 y10 y11 y12, LeO (paymasterlaw06_DatesYears.l0 k y0 y1 y2 y3 y4 y5 y6 y7 y8 y9 y10 y11 y12) (paymasterlaw06_DatesYears.l0 (k + 1) y0 y1 y2 y3 y4 y5 y6 y7 y8 y9 y10 y11 y12))
  | 0 => fun _ _ _ _ _ _ _ _ _ _ _ _ _ r h => by simp [paymasterlaw06_DatesYears.l0] at h
  | k + 1 => by
    have ih0 := paymasterlaw06_DatesYears.mono_l k
    · intro y0 y1 y2 y3 y4 y5 y6 y7 y8 y9 y10 y11 y12
      unfold paymasterlaw06_DatesYears.l0
      repeat' first
      | (with_reducible exact ih0 _ _ _ _ _ _ _ _ _ _ _ _ _)
      | (with_reducible exact dates_Days.mono _ _ _ _ _ _ _ _)
      | (with_reducible exact dates_Length.mono _ _ _)
      | (with_reducible exact dates_Number.mono _ _ _ _)
      | (with_reducible exact paymasterlaw06_awake.mono _)
      | (with_reducible exact LeO.refl _)
      | (with_reducible exact LeO.none _)
      | (with_reducible refine LeO.ite ?_ ?_)
      | (with_reducible refine LeO.bind ?_ (fun _ => ?_))
      | exact ih0 _ _ _ _ _ _ _ _ _ _ _ _ _
      | exact dates_Days.mono _ _ _ _ _ _ _ _
      | exact dates_Length.mono _ _ _
      | exact dates_Number.mono _ _ _ _
      | exact paymasterlaw06_awake.mono _
      | exact LeO.none _
      | refine LeO.ite ?_ ?_
      | refine LeO.bind ?_ (fun _ => ?_)
theorem paymasterlaw06_DatesYears.mono : ∀ a0 k, LeO (paymasterlaw06_DatesYears.f k a0) (paymasterlaw06_DatesYears.f (k + 1) a0) := by
  intro a0 k
  have ih0 := paymasterlaw06_DatesYears.mono_l k
  unfold paymasterlaw06_DatesYears.f
  repeat' first
      | (with_reducible exact ih0 _ _ _ _ _ _ _ _ _ _ _ _ _)
      | (with_reducible exact dates_Days.mono _ _ _ _ _ _ _ _)
      | (with_reducible exact dates_Length.mono _ _ _)
      | (with_reducible exact dates_Number.mono _ _ _ _)
      | (with_reducible exact paymasterlaw06_awake.mono _)
      | (with_reducible exact LeO.refl _)
      | (with_reducible exact LeO.none _)
      | (with_reducible refine LeO.ite ?_ ?_)
      | (with_reducible refine LeO.bind ?_ (fun _ => ?_))
      | exact ih0 _ _ _ _ _ _ _ _ _ _ _ _ _
      | exact dates_Days.mono _ _ _ _ _ _ _ _
      | exact dates_Length.mono _ _ _
      | exact dates_Number.mono _ _ _ _
      | exact paymasterlaw06_awake.mono _
      | exact LeO.none _
      | refine LeO.ite ?_ ?_
      | refine LeO.bind ?_ (fun _ => ?_)
set_option maxHeartbeats 8000000 in
set_option maxRecDepth 100000 in
theorem paymasterlaw06_DatesYears.calls (k : Nat) (a0 : Int) (r : Bool) (w : World) (h : paymasterlaw06_DatesYears.f k a0 = some r) :
    Calls Try.prog 8 #[.int .u16 a0] w fun e w' => e = .returned (.bool r) ∧ Below w.heap.size w w' := by
  have hu23 := Try.underlying23
  have HB := Aside0.mk (Below.refl w.heap.size w)
  have H : ((dates_Number.f k (wrap64 (1900 + (Int.tmod (wrap64 (a0)) 1100))) 1 1).bind fun bt213 => ((dates_Number.f k (wrap64 (1900 + (Int.tmod (wrap64 (a0)) 1100))) 12 31).bind fun bt215 => (paymasterlaw06_DatesYears.l0 k (wrap64 (1900 + (Int.tmod (wrap64 (a0)) 1100))) bt213.1 bt213.2 bt215.1 bt215.2 0 1 (wrap64 (1900 + (Int.tmod (wrap64 (a0)) 1100))) 1 1 (wrap64 (1900 + (Int.tmod (wrap64 (a0)) 1100))) 12 31))) = some r := h
  clear h
  replace H := Option.bind_eq_some_iff.mp H
  obtain ⟨⟨t213, t214⟩, A20, H⟩ := H
  replace H : ((dates_Number.f k (wrap64 (1900 + (Int.tmod (wrap64 (a0)) 1100))) 12 31).bind fun bt215 => (paymasterlaw06_DatesYears.l0 k (wrap64 (1900 + (Int.tmod (wrap64 (a0)) 1100))) t213 t214 bt215.1 bt215.2 0 1 (wrap64 (1900 + (Int.tmod (wrap64 (a0)) 1100))) 1 1 (wrap64 (1900 + (Int.tmod (wrap64 (a0)) 1100))) 12 31)) = some r := H
  have A2 := Aside0.mk A20
  clear A20
  replace H := Option.bind_eq_some_iff.mp H
  obtain ⟨⟨t215, t216⟩, A30, H⟩ := H
  replace H : (paymasterlaw06_DatesYears.l0 k (wrap64 (1900 + (Int.tmod (wrap64 (a0)) 1100))) t213 t214 t215 t216 0 1 (wrap64 (1900 + (Int.tmod (wrap64 (a0)) 1100))) 1 1 (wrap64 (1900 + (Int.tmod (wrap64 (a0)) 1100))) 12 31) = some r := H
  have A3 := Aside0.mk A30
  clear A30
  have H' := Aside0.mk H
  clear H
  go_enter Try.func8, Try.ntmps8
  go_wp2_with (first | ((with_reducible refine gate_dst (N := 4) rfl ?_); refine box_event ?hg (N := 4) ?hd (cs := #[.int .i64 0, .int .i64 0, .int .i64 0]) (t := 23) ?hr ?_; (case hd => rfl); (case hg => rfl); (case hr => first | (go_simp; done) | (go_simp; rfl)); intro gb211 hg w4 hbox hb; have n0_ := Aside0.mk (below_step (by repeat (first | (with_reducible first | exact HB.out | apply below_alloc | apply pw_below_drewN | apply below_drew1) | exact HB.out)) hb); have n1_ := Aside0.mk (hbox); have n2_ := Aside0.mk ((by rw [hg]; exact (below_size (by repeat (first | (with_reducible first | exact HB.out | apply below_alloc | apply pw_below_drewN | apply below_drew1) | exact HB.out))) : w.heap.size ≤ gb211)); have n3_ := Aside0.mk ((by rw [hg]; exact (below_size (by repeat (first | (with_reducible first | exact HB.out | apply below_alloc | apply pw_below_drewN | apply below_drew1) | exact HB.out))) : w.heap.size ≤ gb211)); clear HB; have HB := n0_; have BK211 := n1_; have GW211 := n2_; have GE211 := n3_; clear n0_ n1_ n2_ n3_; clear hb hbox hg) | ((with_reducible refine gate_dst (N := 5) rfl ?_); refine box_event ?hg (N := 5) ?hd (cs := #[.int .i64 0, .int .i64 0, .int .i64 0]) (t := 23) ?hr ?_; (case hd => rfl); (case hg => rfl); (case hr => first | (go_simp; done) | (go_simp; rfl)); intro gb212 hg w5 hbox hb; have n0_ := Aside0.mk (blk_below (g := gb211) (o := .cells #[.int .i64 0, .int .i64 0, .int .i64 0] 23 (0, 0)) (by (with_reducible repeat (first | refine blk_drewN ?_ _ | refine blk_drew ?_ | refine blk_alloc ?_ _)); exact BK211.out) hb); have n1_ := Aside0.mk (below_step (by repeat (first | (with_reducible first | exact HB.out | apply below_alloc | apply pw_below_drewN | apply below_drew1 | refine below_set ?_ GE211.out) | exact HB.out)) hb); have n2_ := Aside0.mk (hbox); have n3_ := Aside0.mk ((by rw [hg]; exact (below_size (by repeat (first | (with_reducible first | exact HB.out | apply below_alloc | apply pw_below_drewN | apply below_drew1 | refine below_set ?_ GE211.out) | exact HB.out))) : w.heap.size ≤ gb212)); have n4_ := Aside0.mk ((by rw [hg]; exact (below_size (by repeat (first | (with_reducible first | exact HB.out | apply below_alloc | apply pw_below_drewN | apply below_drew1 | refine below_set ?_ GE211.out) | exact HB.out))) : w.heap.size ≤ gb212)); have n5_ := Aside0.mk ((by rw [hg]; exact Nat.ne_of_lt (blk_lt (g := gb211) (o := .cells #[.int .i64 0, .int .i64 0, .int .i64 0] 23 (0, 0)) (by (with_reducible repeat (first | refine blk_drewN ?_ _ | refine blk_drew ?_ | refine blk_alloc ?_ _)); exact BK211.out)) : gb211 ≠ gb212)); have n6_ := Aside0.mk ((by rw [hg]; exact Nat.ne_of_gt (blk_lt (g := gb211) (o := .cells #[.int .i64 0, .int .i64 0, .int .i64 0] 23 (0, 0)) (by (with_reducible repeat (first | refine blk_drewN ?_ _ | refine blk_drew ?_ | refine blk_alloc ?_ _)); exact BK211.out)) : gb212 ≠ gb211)); clear BK211; clear HB; have BK211 := n0_; have HB := n1_; have BK212 := n2_; have GW212 := n3_; have GE212 := n4_; have NB211_212 := n5_; have NB212_211 := n6_; clear n0_ n1_ n2_ n3_ n4_ n5_ n6_; clear hb hbox hg; have hnb6 := NB211_212.out; have hnc6 := NB212_211.out; have hcz7_0 : w5.cell? ⟨gb211, 0, none⟩ = some (.int .i64 0) := (blk_cell BK211.out 0).trans rfl; have hcz7_1 : w5.cell? ⟨gb211, 1, none⟩ = some (.int .i64 0) := (blk_cell BK211.out 1).trans rfl; have hcz7_2 : w5.cell? ⟨gb211, 2, none⟩ = some (.int .i64 0) := (blk_cell BK211.out 2).trans rfl; have hfz7_0 := blk_frozen BK211.out 0; have hfz7_1 := blk_frozen BK211.out 1; have hfz7_2 := blk_frozen BK211.out 2; have hcz8_0 : w5.cell? ⟨gb212, 0, none⟩ = some (.int .i64 0) := (blk_cell BK212.out 0).trans rfl; have hcz8_1 : w5.cell? ⟨gb212, 1, none⟩ = some (.int .i64 0) := (blk_cell BK212.out 1).trans rfl; have hcz8_2 : w5.cell? ⟨gb212, 2, none⟩ = some (.int .i64 0) := (blk_cell BK212.out 2).trans rfl; have hfz8_0 := blk_frozen BK212.out 0; have hfz8_1 := blk_frozen BK212.out 1; have hfz8_2 := blk_frozen BK212.out 2) | ((with_reducible refine gate_callee (f := 13) rfl ?_); refine goesL_ (some 23) rfl rfl Try.func13 (by kernel_rfl) rfl #[.agg #[.int .i64 (wrap64 (1900 + (Int.tmod (wrap64 (a0)) 1100))), .int .i64 1, .int .i64 1]] rfl (by (try simp only [List.map_toArray, List.map_cons, List.map_nil]); first | done | rfl | (simp only [List.length_drop, List.length_take]; rfl)) ?_; (with_reducible refine (dates_Number.calls k (wrap64 (1900 + (Int.tmod (wrap64 (a0)) 1100))) 1 1 t213 t214 _ A2.out).mono ?_); rintro e w9 ⟨rfl, hb⟩; refine ⟨_, rfl, ?_⟩; have n0_ := Aside0.mk (blk_below (g := gb211) (o := .cells #[.int .i64 (wrap64 (1900 + (Int.tmod (wrap64 (a0)) 1100))), .int .i64 1, .int .i64 1] 23 (0, 0)) (by (with_reducible repeat (first | refine blk_drewN ?_ _ | refine blk_drew ?_ | refine blk_alloc ?_ _)); refine blk_far ?_ NB211_212.out _; (with_reducible repeat (first | refine blk_drewN ?_ _ | refine blk_drew ?_ | refine blk_alloc ?_ _)); refine blk_far ?_ NB211_212.out _; (with_reducible repeat (first | refine blk_drewN ?_ _ | refine blk_drew ?_ | refine blk_alloc ?_ _)); refine blk_far ?_ NB211_212.out _; (with_reducible repeat (first | refine blk_drewN ?_ _ | refine blk_drew ?_ | refine blk_alloc ?_ _)); refine blk_put (cs := #[.int .i64 (wrap64 (1900 + (Int.tmod (wrap64 (a0)) 1100))), .int .i64 1, .int .i64 0]) ?_ 2 _ rfl; (with_reducible repeat (first | refine blk_drewN ?_ _ | refine blk_drew ?_ | refine blk_alloc ?_ _)); refine blk_put (cs := #[.int .i64 (wrap64 (1900 + (Int.tmod (wrap64 (a0)) 1100))), .int .i64 0, .int .i64 0]) ?_ 1 _ rfl; (with_reducible repeat (first | refine blk_drewN ?_ _ | refine blk_drew ?_ | refine blk_alloc ?_ _)); refine blk_put (cs := #[.int .i64 0, .int .i64 0, .int .i64 0]) ?_ 0 _ rfl; (with_reducible repeat (first | refine blk_drewN ?_ _ | refine blk_drew ?_ | refine blk_alloc ?_ _)); exact BK211.out) hb); have n1_ := Aside0.mk (blk_below (g := gb212) (o := .cells #[.int .i64 (wrap64 (1900 + (Int.tmod (wrap64 (a0)) 1100))), .int .i64 12, .int .i64 31] 23 (0, 0)) (by (with_reducible repeat (first | refine blk_drewN ?_ _ | refine blk_drew ?_ | refine blk_alloc ?_ _)); refine blk_put (cs := #[.int .i64 (wrap64 (1900 + (Int.tmod (wrap64 (a0)) 1100))), .int .i64 12, .int .i64 0]) ?_ 2 _ rfl; (with_reducible repeat (first | refine blk_drewN ?_ _ | refine blk_drew ?_ | refine blk_alloc ?_ _)); refine blk_put (cs := #[.int .i64 (wrap64 (1900 + (Int.tmod (wrap64 (a0)) 1100))), .int .i64 0, .int .i64 0]) ?_ 1 _ rfl; (with_reducible repeat (first | refine blk_drewN ?_ _ | refine blk_drew ?_ | refine blk_alloc ?_ _)); refine blk_put (cs := #[.int .i64 0, .int .i64 0, .int .i64 0]) ?_ 0 _ rfl; (with_reducible repeat (first | refine blk_drewN ?_ _ | refine blk_drew ?_ | refine blk_alloc ?_ _)); refine blk_far ?_ NB212_211.out _; (with_reducible repeat (first | refine blk_drewN ?_ _ | refine blk_drew ?_ | refine blk_alloc ?_ _)); refine blk_far ?_ NB212_211.out _; (with_reducible repeat (first | refine blk_drewN ?_ _ | refine blk_drew ?_ | refine blk_alloc ?_ _)); refine blk_far ?_ NB212_211.out _; (with_reducible repeat (first | refine blk_drewN ?_ _ | refine blk_drew ?_ | refine blk_alloc ?_ _)); exact BK212.out) hb); have n2_ := Aside0.mk (below_step (by repeat (first | (with_reducible first | exact HB.out | apply below_alloc | apply pw_below_drewN | apply below_drew1 | refine below_set ?_ GE211.out | refine below_set ?_ GE212.out) | exact HB.out)) hb); clear BK211; clear BK212; clear HB; have BK211 := n0_; have BK212 := n1_; have HB := n2_; clear n0_ n1_ n2_; (try clear hb); (try clear hb2); (try clear hk); (try clear hi); have hcz10_0 : w9.cell? ⟨gb212, 0, none⟩ = some (.int .i64 (wrap64 (1900 + (Int.tmod (wrap64 (a0)) 1100)))) := (blk_cell BK212.out 0).trans rfl; have hcz10_1 : w9.cell? ⟨gb212, 1, none⟩ = some (.int .i64 12) := (blk_cell BK212.out 1).trans rfl; have hcz10_2 : w9.cell? ⟨gb212, 2, none⟩ = some (.int .i64 31) := (blk_cell BK212.out 2).trans rfl; have hfz10_0 := blk_frozen BK212.out 0; have hfz10_1 := blk_frozen BK212.out 1; have hfz10_2 := blk_frozen BK212.out 2) | ((with_reducible refine gate_callee (f := 13) rfl ?_); refine goesL_ (some 28) rfl rfl Try.func13 (by kernel_rfl) rfl #[.agg #[.int .i64 (wrap64 (1900 + (Int.tmod (wrap64 (a0)) 1100))), .int .i64 12, .int .i64 31]] rfl (by (try simp only [List.map_toArray, List.map_cons, List.map_nil]); first | done | rfl | (simp only [List.length_drop, List.length_take]; rfl)) ?_; (with_reducible refine (dates_Number.calls k (wrap64 (1900 + (Int.tmod (wrap64 (a0)) 1100))) 12 31 t215 t216 _ A3.out).mono ?_); rintro e w11 ⟨rfl, hb⟩; refine ⟨_, rfl, ?_⟩; have n0_ := Aside0.mk (blk_below (g := gb211) (o := .cells #[.int .i64 (wrap64 (1900 + (Int.tmod (wrap64 (a0)) 1100))), .int .i64 1, .int .i64 1] 23 (0, 0)) (by (with_reducible repeat (first | refine blk_drewN ?_ _ | refine blk_drew ?_ | refine blk_alloc ?_ _)); exact BK211.out) hb); have n1_ := Aside0.mk (blk_below (g := gb212) (o := .cells #[.int .i64 (wrap64 (1900 + (Int.tmod (wrap64 (a0)) 1100))), .int .i64 12, .int .i64 31] 23 (0, 0)) (by (with_reducible repeat (first | refine blk_drewN ?_ _ | refine blk_drew ?_ | refine blk_alloc ?_ _)); exact BK212.out) hb); have n2_ := Aside0.mk (below_step (by repeat (first | (with_reducible first | exact HB.out | apply below_alloc | apply pw_below_drewN | apply below_drew1 | refine below_set ?_ GE211.out | refine below_set ?_ GE212.out) | exact HB.out)) hb); clear BK211; clear BK212; clear HB; have BK211 := n0_; have BK212 := n1_; have HB := n2_; clear n0_ n1_ n2_; (try clear hb); (try clear hb2); (try clear hk); (try clear hi)))
  go_loopg [10, 11] k (fun kq v10 v11 w' => ∃ (x10_1 : Int) (x11_1 : Int), v10 = .int .i64 x10_1 ∧ v11 = .int .i64 x11_1 ∧ Aside0 (paymasterlaw06_DatesYears.l0 kq (wrap64 (1900 + (Int.tmod (wrap64 (a0)) 1100))) t213 t214 t215 t216 x10_1 x11_1 (wrap64 (1900 + (Int.tmod (wrap64 (a0)) 1100))) 1 1 (wrap64 (1900 + (Int.tmod (wrap64 (a0)) 1100))) 12 31 = some r) ∧ Aside0 (kq ≤ k) ∧ Aside0 (w'.heap[gb211]? = some (.cells #[.int .i64 (wrap64 (1900 + (Int.tmod (wrap64 (a0)) 1100))), .int .i64 1, .int .i64 1] 23 (0, 0))) ∧ Aside0 (w'.heap[gb212]? = some (.cells #[.int .i64 (wrap64 (1900 + (Int.tmod (wrap64 (a0)) 1100))), .int .i64 12, .int .i64 31] 23 (0, 0))) ∧ Aside0 (Below w.heap.size w w'))
  case atStart => exact ⟨(0), (1), (by first | rfl | (simp; done) | (simp [*]; done)), (by first | rfl | (simp; done) | (simp [*]; done)), H', ⟨Nat.le_refl _⟩, ⟨by (with_reducible repeat (first | refine blk_drewN ?_ _ | refine blk_drew ?_ | refine blk_alloc ?_ _)); exact BK211.out⟩, ⟨by (with_reducible repeat (first | refine blk_drewN ?_ _ | refine blk_drew ?_ | refine blk_alloc ?_ _)); exact BK212.out⟩, ⟨by repeat (first | (with_reducible first | exact HB.out | apply below_alloc | apply pw_below_drewN | apply below_drew1 | refine below_set ?_ GE211.out | refine below_set ?_ GE212.out) | exact HB.out)⟩⟩
  case round =>
    clear H'
    try clear c1
    try clear p2
    try clear c6
    try clear p6
    try clear c8
    try clear hcz10_0
    try clear hcz10_1
    try clear hcz10_2
    try clear hcz7_0
    try clear hcz7_1
    try clear hcz7_2
    try clear hcz8_0
    try clear hcz8_1
    try clear hcz8_2
    try clear hfz10_0
    try clear hfz10_1
    try clear hfz10_2
    try clear hfz7_0
    try clear hfz7_1
    try clear hfz7_2
    try clear hfz8_0
    try clear hfz8_1
    try clear hfz8_2
    obtain ⟨x10_1, x11_1, rfl, rfl, HA, HK1, BK211, BK212, HB⟩ := hrel
    cases gk with
    | zero => exact absurd HA.out (by simp [paymasterlaw06_DatesYears.l0])
    | succ k1 =>
      have H := HA.out
      clear HA
      simp only [paymasterlaw06_DatesYears.l0] at H
      by_cases c12 : x11_1 ≤ 12
      · rw [if_pos c12] at H
        have c12b0 : decide (x11_1 ≤ 12) = true := decide_eq_true c12
        clear c12
        replace H := Option.bind_eq_some_iff.mp H
        obtain ⟨t217, A130, H⟩ := H
        replace H : ((dates_Length.f k1 (wrap64 (1900 + (Int.tmod (wrap64 (a0)) 1100))) x11_1).bind fun t218 => (if t217 = t218 then (paymasterlaw06_DatesYears.l0 k1 (wrap64 (1900 + (Int.tmod (wrap64 (a0)) 1100))) t213 t214 t215 t216 (wrap64 (x10_1 + t217)) (wrap64 (x11_1 + 1)) (wrap64 (1900 + (Int.tmod (wrap64 (a0)) 1100))) 1 1 (wrap64 (1900 + (Int.tmod (wrap64 (a0)) 1100))) 12 31) else (none))) = some r := H
        have A13 := Aside0.mk A130
        clear A130
        replace H := Option.bind_eq_some_iff.mp H
        obtain ⟨t218, A140, H⟩ := H
        replace H : (if t217 = t218 then (paymasterlaw06_DatesYears.l0 k1 (wrap64 (1900 + (Int.tmod (wrap64 (a0)) 1100))) t213 t214 t215 t216 (wrap64 (x10_1 + t217)) (wrap64 (x11_1 + 1)) (wrap64 (1900 + (Int.tmod (wrap64 (a0)) 1100))) 1 1 (wrap64 (1900 + (Int.tmod (wrap64 (a0)) 1100))) 12 31) else (none)) = some r := H
        have A14 := Aside0.mk A140
        clear A140
        by_cases c15 : t217 = t218
        · rw [if_pos c15] at H
          have c15b0 : (t217 == t218) = true := beq_iff_eq.mpr c15
          have c15b1 : (t217 != t218) = false := bne_eq_false_iff_eq.mpr c15
          clear c15
          have H' := Aside0.mk H
          clear H
          have hnb16 := NB211_212.out
          have hnc16 := NB212_211.out
          have hcz17_0 : wr.cell? ⟨gb211, 0, none⟩ = some (.int .i64 (wrap64 (1900 + (Int.tmod (wrap64 (a0)) 1100)))) := (blk_cell BK211.out 0).trans rfl
          have hcz17_1 : wr.cell? ⟨gb211, 1, none⟩ = some (.int .i64 1) := (blk_cell BK211.out 1).trans rfl
          have hcz17_2 : wr.cell? ⟨gb211, 2, none⟩ = some (.int .i64 1) := (blk_cell BK211.out 2).trans rfl
          have hfz17_0 := blk_frozen BK211.out 0
          have hfz17_1 := blk_frozen BK211.out 1
          have hfz17_2 := blk_frozen BK211.out 2
          have hcz18_0 : wr.cell? ⟨gb212, 0, none⟩ = some (.int .i64 (wrap64 (1900 + (Int.tmod (wrap64 (a0)) 1100)))) := (blk_cell BK212.out 0).trans rfl
          have hcz18_1 : wr.cell? ⟨gb212, 1, none⟩ = some (.int .i64 12) := (blk_cell BK212.out 1).trans rfl
          have hcz18_2 : wr.cell? ⟨gb212, 2, none⟩ = some (.int .i64 31) := (blk_cell BK212.out 2).trans rfl
          have hfz18_0 := blk_frozen BK212.out 0
          have hfz18_1 := blk_frozen BK212.out 1
          have hfz18_2 := blk_frozen BK212.out 2
          go_wp2_with (first | ((with_reducible refine gate_callee (f := 20) rfl ?_); refine goesL_ (some 42) rfl rfl Try.func20 (by kernel_rfl) rfl #[.agg #[.int .i64 (wrap64 (1900 + (Int.tmod (wrap64 (a0)) 1100))), .int .i64 1, .int .i64 1], .agg #[.int .i64 (wrap64 (1900 + (Int.tmod (wrap64 (a0)) 1100))), .int .i64 12, .int .i64 31], .int .i64 (wrap64 ((wrap64 ((wrap64 (12 * (wrap64 (1900 + (Int.tmod (wrap64 (a0)) 1100))))) + x11_1)) - 1))] rfl (by (try simp only [List.map_toArray, List.map_cons, List.map_nil]); first | done | rfl | (simp only [List.length_drop, List.length_take]; rfl)) ?_; (with_reducible refine (dates_Days.calls k1 (wrap64 (1900 + (Int.tmod (wrap64 (a0)) 1100))) 1 1 (wrap64 (1900 + (Int.tmod (wrap64 (a0)) 1100))) 12 31 (wrap64 ((wrap64 ((wrap64 (12 * (wrap64 (1900 + (Int.tmod (wrap64 (a0)) 1100))))) + x11_1)) - 1)) t217 _ A13.out).mono ?_); rintro e w19 ⟨rfl, hb⟩; refine ⟨_, rfl, ?_⟩; have n0_ := Aside0.mk (blk_below (g := gb211) (o := .cells #[.int .i64 (wrap64 (1900 + (Int.tmod (wrap64 (a0)) 1100))), .int .i64 1, .int .i64 1] 23 (0, 0)) (by (with_reducible repeat (first | refine blk_drewN ?_ _ | refine blk_drew ?_ | refine blk_alloc ?_ _)); exact BK211.out) hb); have n1_ := Aside0.mk (blk_below (g := gb212) (o := .cells #[.int .i64 (wrap64 (1900 + (Int.tmod (wrap64 (a0)) 1100))), .int .i64 12, .int .i64 31] 23 (0, 0)) (by (with_reducible repeat (first | refine blk_drewN ?_ _ | refine blk_drew ?_ | refine blk_alloc ?_ _)); exact BK212.out) hb); have n2_ := Aside0.mk (below_step (by repeat (first | (with_reducible first | exact HB.out | apply below_alloc | apply pw_below_drewN | apply below_drew1 | refine below_set ?_ GE211.out | refine below_set ?_ GE212.out) | exact HB.out)) hb); clear BK211; clear BK212; clear HB; have BK211 := n0_; have BK212 := n1_; have HB := n2_; clear n0_ n1_ n2_; (try clear hb); (try clear hb2); (try clear hk); (try clear hi)) | ((with_reducible refine gate_callee (f := 15) rfl ?_); refine goesL_ (some 46) rfl rfl Try.func15 (by kernel_rfl) rfl #[.int .i64 (wrap64 (1900 + (Int.tmod (wrap64 (a0)) 1100))), .int .i64 x11_1] rfl (by (try simp only [List.map_toArray, List.map_cons, List.map_nil]); first | done | rfl | (simp only [List.length_drop, List.length_take]; rfl)) ?_; (with_reducible refine (dates_Length.calls k1 (wrap64 (1900 + (Int.tmod (wrap64 (a0)) 1100))) x11_1 t218 _ A14.out).mono ?_); rintro e w' ⟨rfl, ⟨nd, rfl⟩⟩; refine ⟨_, rfl, ?_⟩))
          go_roundg k1
          case measure => have := HK1.out; omega
          case rel => exact ⟨(wrap64 (x10_1 + t217)), (wrap64 (x11_1 + 1)), (by first | rfl | (simp; done) | (simp [*]; done)), (by first | rfl | (simp; done) | (simp [*]; done)), H', ⟨by have := HK1.out; omega⟩, ⟨by (with_reducible repeat (first | refine blk_drewN ?_ _ | refine blk_drew ?_ | refine blk_alloc ?_ _)); exact BK211.out⟩, ⟨by (with_reducible repeat (first | refine blk_drewN ?_ _ | refine blk_drew ?_ | refine blk_alloc ?_ _)); exact BK212.out⟩, ⟨by repeat (first | (with_reducible first | exact HB.out | apply below_alloc | apply pw_below_drewN | apply below_drew1 | refine below_set ?_ GE211.out | refine below_set ?_ GE212.out) | exact HB.out)⟩⟩
        · rw [if_neg c15] at H
          exact absurd H (by simp)
      · rw [if_neg c12] at H
        have c12b0 : decide (x11_1 ≤ 12) = false := decide_eq_false c12
        clear c12
        by_cases c20 : t214 = true
        · subst c20
          have H1 : (if t216 = true then (if x10_1 = (wrap64 ((wrap64 (t215 - t213)) + 1)) then ((dates_Days.f k1 (wrap64 (1900 + (Int.tmod (wrap64 (a0)) 1100))) 1 1 (wrap64 (1900 + (Int.tmod (wrap64 (a0)) 1100))) 12 31 (wrap64 ((wrap64 (12 * (wrap64 (1900 + (Int.tmod (wrap64 (a0)) 1100))))) - 1))).bind fun t219 => (if t219 = 0 then ((dates_Days.f k1 (wrap64 (1900 + (Int.tmod (wrap64 (a0)) 1100))) 1 1 (wrap64 (1900 + (Int.tmod (wrap64 (a0)) 1100))) 12 31 (wrap64 ((wrap64 (12 * (wrap64 (1900 + (Int.tmod (wrap64 (a0)) 1100))))) + 12))).bind fun t220 => (if t220 = 0 then ((dates_Days.f k1 (wrap64 (1900 + (Int.tmod (wrap64 (a0)) 1100))) 12 31 (wrap64 (1900 + (Int.tmod (wrap64 (a0)) 1100))) 1 1 (wrap64 (12 * (wrap64 (1900 + (Int.tmod (wrap64 (a0)) 1100)))))).bind fun t221 => (if t221 = 0 then ((paymasterlaw06_awake.f k1).bind fun t222 => (some t222)) else (none))) else (none))) else (none))) else (none)) else (none)) = some r := by rw [if_pos rfl] at H; exact H
          clear H
          have H := H1
          clear H1
          by_cases c21 : t216 = true
          · subst c21
            have H1 : (if x10_1 = (wrap64 ((wrap64 (t215 - t213)) + 1)) then ((dates_Days.f k1 (wrap64 (1900 + (Int.tmod (wrap64 (a0)) 1100))) 1 1 (wrap64 (1900 + (Int.tmod (wrap64 (a0)) 1100))) 12 31 (wrap64 ((wrap64 (12 * (wrap64 (1900 + (Int.tmod (wrap64 (a0)) 1100))))) - 1))).bind fun t219 => (if t219 = 0 then ((dates_Days.f k1 (wrap64 (1900 + (Int.tmod (wrap64 (a0)) 1100))) 1 1 (wrap64 (1900 + (Int.tmod (wrap64 (a0)) 1100))) 12 31 (wrap64 ((wrap64 (12 * (wrap64 (1900 + (Int.tmod (wrap64 (a0)) 1100))))) + 12))).bind fun t220 => (if t220 = 0 then ((dates_Days.f k1 (wrap64 (1900 + (Int.tmod (wrap64 (a0)) 1100))) 12 31 (wrap64 (1900 + (Int.tmod (wrap64 (a0)) 1100))) 1 1 (wrap64 (12 * (wrap64 (1900 + (Int.tmod (wrap64 (a0)) 1100)))))).bind fun t221 => (if t221 = 0 then ((paymasterlaw06_awake.f k1).bind fun t222 => (some t222)) else (none))) else (none))) else (none))) else (none)) = some r := by rw [if_pos rfl] at H; exact H
            clear H
            have H := H1
            clear H1
            by_cases c22 : x10_1 = (wrap64 ((wrap64 (t215 - t213)) + 1))
            · rw [if_pos c22] at H
              have c22b0 : (x10_1 == (wrap64 ((wrap64 (t215 - t213)) + 1))) = true := beq_iff_eq.mpr c22
              have c22b1 : (x10_1 != (wrap64 ((wrap64 (t215 - t213)) + 1))) = false := bne_eq_false_iff_eq.mpr c22
              clear c22
              replace H := Option.bind_eq_some_iff.mp H
              obtain ⟨t219, A230, H⟩ := H
              replace H : (if t219 = 0 then ((dates_Days.f k1 (wrap64 (1900 + (Int.tmod (wrap64 (a0)) 1100))) 1 1 (wrap64 (1900 + (Int.tmod (wrap64 (a0)) 1100))) 12 31 (wrap64 ((wrap64 (12 * (wrap64 (1900 + (Int.tmod (wrap64 (a0)) 1100))))) + 12))).bind fun t220 => (if t220 = 0 then ((dates_Days.f k1 (wrap64 (1900 + (Int.tmod (wrap64 (a0)) 1100))) 12 31 (wrap64 (1900 + (Int.tmod (wrap64 (a0)) 1100))) 1 1 (wrap64 (12 * (wrap64 (1900 + (Int.tmod (wrap64 (a0)) 1100)))))).bind fun t221 => (if t221 = 0 then ((paymasterlaw06_awake.f k1).bind fun t222 => (some t222)) else (none))) else (none))) else (none)) = some r := H
              have A23 := Aside0.mk A230
              clear A230
              by_cases c24 : t219 = 0
              · rw [if_pos c24] at H
                have c24b0 : (t219 == 0) = true := beq_iff_eq.mpr c24
                have c24b1 : (t219 != 0) = false := bne_eq_false_iff_eq.mpr c24
                clear c24
                replace H := Option.bind_eq_some_iff.mp H
                obtain ⟨t220, A250, H⟩ := H
                replace H : (if t220 = 0 then ((dates_Days.f k1 (wrap64 (1900 + (Int.tmod (wrap64 (a0)) 1100))) 12 31 (wrap64 (1900 + (Int.tmod (wrap64 (a0)) 1100))) 1 1 (wrap64 (12 * (wrap64 (1900 + (Int.tmod (wrap64 (a0)) 1100)))))).bind fun t221 => (if t221 = 0 then ((paymasterlaw06_awake.f k1).bind fun t222 => (some t222)) else (none))) else (none)) = some r := H
                have A25 := Aside0.mk A250
                clear A250
                by_cases c26 : t220 = 0
                · rw [if_pos c26] at H
                  have c26b0 : (t220 == 0) = true := beq_iff_eq.mpr c26
                  have c26b1 : (t220 != 0) = false := bne_eq_false_iff_eq.mpr c26
                  clear c26
                  replace H := Option.bind_eq_some_iff.mp H
                  obtain ⟨t221, A270, H⟩ := H
                  replace H : (if t221 = 0 then ((paymasterlaw06_awake.f k1).bind fun t222 => (some t222)) else (none)) = some r := H
                  have A27 := Aside0.mk A270
                  clear A270
                  by_cases c28 : t221 = 0
                  · rw [if_pos c28] at H
                    have c28b0 : (t221 == 0) = true := beq_iff_eq.mpr c28
                    have c28b1 : (t221 != 0) = false := bne_eq_false_iff_eq.mpr c28
                    clear c28
                    replace H := Option.bind_eq_some_iff.mp H
                    obtain ⟨t222, A290, H⟩ := H
                    replace H : (some t222) = some r := H
                    have A29 := Aside0.mk A290
                    clear A290
                    obtain rfl := Option.some.inj H
                    have hnb30 := NB211_212.out
                    have hnc30 := NB212_211.out
                    have hcz31_0 : wr.cell? ⟨gb211, 0, none⟩ = some (.int .i64 (wrap64 (1900 + (Int.tmod (wrap64 (a0)) 1100)))) := (blk_cell BK211.out 0).trans rfl
                    have hcz31_1 : wr.cell? ⟨gb211, 1, none⟩ = some (.int .i64 1) := (blk_cell BK211.out 1).trans rfl
                    have hcz31_2 : wr.cell? ⟨gb211, 2, none⟩ = some (.int .i64 1) := (blk_cell BK211.out 2).trans rfl
                    have hfz31_0 := blk_frozen BK211.out 0
                    have hfz31_1 := blk_frozen BK211.out 1
                    have hfz31_2 := blk_frozen BK211.out 2
                    have hcz32_0 : wr.cell? ⟨gb212, 0, none⟩ = some (.int .i64 (wrap64 (1900 + (Int.tmod (wrap64 (a0)) 1100)))) := (blk_cell BK212.out 0).trans rfl
                    have hcz32_1 : wr.cell? ⟨gb212, 1, none⟩ = some (.int .i64 12) := (blk_cell BK212.out 1).trans rfl
                    have hcz32_2 : wr.cell? ⟨gb212, 2, none⟩ = some (.int .i64 31) := (blk_cell BK212.out 2).trans rfl
                    have hfz32_0 := blk_frozen BK212.out 0
                    have hfz32_1 := blk_frozen BK212.out 1
                    have hfz32_2 := blk_frozen BK212.out 2
                    go_wp2_with (first | (go_at_call 20; (with_reducible refine (dates_Days.calls k1 (wrap64 (1900 + (Int.tmod (wrap64 (a0)) 1100))) 1 1 (wrap64 (1900 + (Int.tmod (wrap64 (a0)) 1100))) 12 31 (wrap64 ((wrap64 (12 * (wrap64 (1900 + (Int.tmod (wrap64 (a0)) 1100))))) - 1)) t219 _ A23.out).mono ?_); rintro e w33 ⟨rfl, hb⟩; have n0_ := Aside0.mk (blk_below (g := gb211) (o := .cells #[.int .i64 (wrap64 (1900 + (Int.tmod (wrap64 (a0)) 1100))), .int .i64 1, .int .i64 1] 23 (0, 0)) (by (with_reducible repeat (first | refine blk_drewN ?_ _ | refine blk_drew ?_ | refine blk_alloc ?_ _)); exact BK211.out) hb); have n1_ := Aside0.mk (blk_below (g := gb212) (o := .cells #[.int .i64 (wrap64 (1900 + (Int.tmod (wrap64 (a0)) 1100))), .int .i64 12, .int .i64 31] 23 (0, 0)) (by (with_reducible repeat (first | refine blk_drewN ?_ _ | refine blk_drew ?_ | refine blk_alloc ?_ _)); exact BK212.out) hb); have n2_ := Aside0.mk (below_step (by repeat (first | (with_reducible first | exact HB.out | apply below_alloc | apply pw_below_drewN | apply below_drew1 | refine below_set ?_ GE211.out | refine below_set ?_ GE212.out) | exact HB.out)) hb); clear BK211; clear BK212; clear HB; have BK211 := n0_; have BK212 := n1_; have HB := n2_; clear n0_ n1_ n2_; (try clear hb); (try clear hb2); (try clear hk); (try clear hi); have hcz34_0 : w33.cell? ⟨gb211, 0, none⟩ = some (.int .i64 (wrap64 (1900 + (Int.tmod (wrap64 (a0)) 1100)))) := (blk_cell BK211.out 0).trans rfl; have hcz34_1 : w33.cell? ⟨gb211, 1, none⟩ = some (.int .i64 1) := (blk_cell BK211.out 1).trans rfl; have hcz34_2 : w33.cell? ⟨gb211, 2, none⟩ = some (.int .i64 1) := (blk_cell BK211.out 2).trans rfl; have hfz34_0 := blk_frozen BK211.out 0; have hfz34_1 := blk_frozen BK211.out 1; have hfz34_2 := blk_frozen BK211.out 2; have hcz35_0 : w33.cell? ⟨gb212, 0, none⟩ = some (.int .i64 (wrap64 (1900 + (Int.tmod (wrap64 (a0)) 1100)))) := (blk_cell BK212.out 0).trans rfl; have hcz35_1 : w33.cell? ⟨gb212, 1, none⟩ = some (.int .i64 12) := (blk_cell BK212.out 1).trans rfl; have hcz35_2 : w33.cell? ⟨gb212, 2, none⟩ = some (.int .i64 31) := (blk_cell BK212.out 2).trans rfl; have hfz35_0 := blk_frozen BK212.out 0; have hfz35_1 := blk_frozen BK212.out 1; have hfz35_2 := blk_frozen BK212.out 2) | (go_at_call 20; (with_reducible refine (dates_Days.calls k1 (wrap64 (1900 + (Int.tmod (wrap64 (a0)) 1100))) 1 1 (wrap64 (1900 + (Int.tmod (wrap64 (a0)) 1100))) 12 31 (wrap64 ((wrap64 (12 * (wrap64 (1900 + (Int.tmod (wrap64 (a0)) 1100))))) + 12)) t220 _ A25.out).mono ?_); rintro e w36 ⟨rfl, hb⟩; have n0_ := Aside0.mk (blk_below (g := gb211) (o := .cells #[.int .i64 (wrap64 (1900 + (Int.tmod (wrap64 (a0)) 1100))), .int .i64 1, .int .i64 1] 23 (0, 0)) (by (with_reducible repeat (first | refine blk_drewN ?_ _ | refine blk_drew ?_ | refine blk_alloc ?_ _)); exact BK211.out) hb); have n1_ := Aside0.mk (blk_below (g := gb212) (o := .cells #[.int .i64 (wrap64 (1900 + (Int.tmod (wrap64 (a0)) 1100))), .int .i64 12, .int .i64 31] 23 (0, 0)) (by (with_reducible repeat (first | refine blk_drewN ?_ _ | refine blk_drew ?_ | refine blk_alloc ?_ _)); exact BK212.out) hb); have n2_ := Aside0.mk (below_step (by repeat (first | (with_reducible first | exact HB.out | apply below_alloc | apply pw_below_drewN | apply below_drew1 | refine below_set ?_ GE211.out | refine below_set ?_ GE212.out) | exact HB.out)) hb); clear BK211; clear BK212; clear HB; have BK211 := n0_; have BK212 := n1_; have HB := n2_; clear n0_ n1_ n2_; (try clear hb); (try clear hb2); (try clear hk); (try clear hi); have hcz37_0 : w36.cell? ⟨gb212, 0, none⟩ = some (.int .i64 (wrap64 (1900 + (Int.tmod (wrap64 (a0)) 1100)))) := (blk_cell BK212.out 0).trans rfl; have hcz37_1 : w36.cell? ⟨gb212, 1, none⟩ = some (.int .i64 12) := (blk_cell BK212.out 1).trans rfl; have hcz37_2 : w36.cell? ⟨gb212, 2, none⟩ = some (.int .i64 31) := (blk_cell BK212.out 2).trans rfl; have hfz37_0 := blk_frozen BK212.out 0; have hfz37_1 := blk_frozen BK212.out 1; have hfz37_2 := blk_frozen BK212.out 2; have hcz38_0 : w36.cell? ⟨gb211, 0, none⟩ = some (.int .i64 (wrap64 (1900 + (Int.tmod (wrap64 (a0)) 1100)))) := (blk_cell BK211.out 0).trans rfl; have hcz38_1 : w36.cell? ⟨gb211, 1, none⟩ = some (.int .i64 1) := (blk_cell BK211.out 1).trans rfl; have hcz38_2 : w36.cell? ⟨gb211, 2, none⟩ = some (.int .i64 1) := (blk_cell BK211.out 2).trans rfl; have hfz38_0 := blk_frozen BK211.out 0; have hfz38_1 := blk_frozen BK211.out 1; have hfz38_2 := blk_frozen BK211.out 2) | (go_at_call 20; (with_reducible refine (dates_Days.calls k1 (wrap64 (1900 + (Int.tmod (wrap64 (a0)) 1100))) 12 31 (wrap64 (1900 + (Int.tmod (wrap64 (a0)) 1100))) 1 1 (wrap64 (12 * (wrap64 (1900 + (Int.tmod (wrap64 (a0)) 1100))))) t221 _ A27.out).mono ?_); rintro e w39 ⟨rfl, hb⟩; have n0_ := Aside0.mk (blk_below (g := gb211) (o := .cells #[.int .i64 (wrap64 (1900 + (Int.tmod (wrap64 (a0)) 1100))), .int .i64 1, .int .i64 1] 23 (0, 0)) (by (with_reducible repeat (first | refine blk_drewN ?_ _ | refine blk_drew ?_ | refine blk_alloc ?_ _)); exact BK211.out) hb); have n1_ := Aside0.mk (blk_below (g := gb212) (o := .cells #[.int .i64 (wrap64 (1900 + (Int.tmod (wrap64 (a0)) 1100))), .int .i64 12, .int .i64 31] 23 (0, 0)) (by (with_reducible repeat (first | refine blk_drewN ?_ _ | refine blk_drew ?_ | refine blk_alloc ?_ _)); exact BK212.out) hb); have n2_ := Aside0.mk (below_step (by repeat (first | (with_reducible first | exact HB.out | apply below_alloc | apply pw_below_drewN | apply below_drew1 | refine below_set ?_ GE211.out | refine below_set ?_ GE212.out) | exact HB.out)) hb); clear BK211; clear BK212; clear HB; have BK211 := n0_; have BK212 := n1_; have HB := n2_; clear n0_ n1_ n2_; (try clear hb); (try clear hb2); (try clear hk); (try clear hi)) | (go_at_call 12; (with_reducible refine (paymasterlaw06_awake.calls k1  t222 _ A29.out).mono ?_); rintro e w40 ⟨rfl, hb⟩; have n0_ := Aside0.mk (blk_below (g := gb211) (o := .cells #[.int .i64 (wrap64 (1900 + (Int.tmod (wrap64 (a0)) 1100))), .int .i64 1, .int .i64 1] 23 (0, 0)) (by (with_reducible repeat (first | refine blk_drewN ?_ _ | refine blk_drew ?_ | refine blk_alloc ?_ _)); exact BK211.out) hb); have n1_ := Aside0.mk (blk_below (g := gb212) (o := .cells #[.int .i64 (wrap64 (1900 + (Int.tmod (wrap64 (a0)) 1100))), .int .i64 12, .int .i64 31] 23 (0, 0)) (by (with_reducible repeat (first | refine blk_drewN ?_ _ | refine blk_drew ?_ | refine blk_alloc ?_ _)); exact BK212.out) hb); have n2_ := Aside0.mk (below_step (by repeat (first | (with_reducible first | exact HB.out | apply below_alloc | apply pw_below_drewN | apply below_drew1 | refine below_set ?_ GE211.out | refine below_set ?_ GE212.out) | exact HB.out)) hb); clear BK211; clear BK212; clear HB; have BK211 := n0_; have BK212 := n1_; have HB := n2_; clear n0_ n1_ n2_; (try clear hb); (try clear hb2); (try clear hk); (try clear hi)))
                    go_ret
                    exact ⟨by first | rfl | (simp [errW_none, errW_some] <;> rfl) | (simp [*, errW_none, errW_some] <;> rfl), by repeat (first | (with_reducible first | exact HB.out | apply below_alloc | apply pw_below_drewN | apply below_drew1 | refine below_set ?_ GE211.out | refine below_set ?_ GE212.out) | exact HB.out)⟩
                  · rw [if_neg c28] at H
                    exact absurd H (by simp)
                · rw [if_neg c26] at H
                  exact absurd H (by simp)
              · rw [if_neg c24] at H
                exact absurd H (by simp)
            · rw [if_neg c22] at H
              exact absurd H (by simp)
          · replace c21 := Bool.eq_false_iff.mpr c21
            subst c21
            have H1 : (none) = some r := by rw [if_neg (show ¬ (false = true) by decide)] at H; exact H
            clear H
            have H := H1
            clear H1
            exact absurd H (by simp)
        · replace c20 := Bool.eq_false_iff.mpr c20
          subst c20
          have H1 : (none) = some r := by rw [if_neg (show ¬ (false = true) by decide)] at H; exact H
          clear H
          have H := H1
          clear H1
          exact absurd H (by simp)

/-- THE ONE PURE STATEMENT of paymasterlaw06_DatesYears: yours. -/
def paymasterlaw06_DatesYears.Pure : Prop := ∀ (a0 : Int), (Lit.int .u16 a0).wf = true → ∃ k, paymasterlaw06_DatesYears.f k a0 = some true
theorem paymasterlaw06_DatesYears.walk (P : paymasterlaw06_DatesYears.Pure) (a0 : Int) (w : World) (w0 : (Lit.int .u16 a0).wf = true) :
    Calls Try.prog 8 #[.int .u16 a0] w fun e w' => e = .returned (.bool true) ∧ Below w.heap.size w w' := by
  obtain ⟨k, h⟩ := P a0 w0
  refine (paymasterlaw06_DatesYears.calls k a0 true w h).mono ?_
  rintro e w' ⟨rfl, hd⟩
  exact ⟨rfl, hd⟩

end Go.Proofs.Ytkfhclichfjhmaa.PA
