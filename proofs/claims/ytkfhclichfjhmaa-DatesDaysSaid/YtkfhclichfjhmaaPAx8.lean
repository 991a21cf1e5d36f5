/- Contracts of the functions of the given program: written by wip/pmprint.py, a program of this session, which runs the print of the kit over altered functions. -/
import Derived.Test.YtkfhclichfjhmaaPAx0
import Derived.Test.YtkfhclichfjhmaaPAx2
import Derived.Test.YtkfhclichfjhmaaPAx3
import Derived.Test.YtkfhclichfjhmaaPAx4
import Derived.Test.YtkfhclichfjhmaaPAx6
namespace Go.Proofs.Ytkfhclichfjhmaa.PA
open Go.RowKit Go.Proofs.YtkfhclichfjhmaaW.PrintWords Go.Proofs.YtkfhclichfjhmaaW.PrintLast Go.Proofs.YtkfhclichfjhmaaW.PrintMore
attribute [local go_sem] max2_int min2_int max_two min_two max_three min_three max_four min_four   -- for this text's walks alone
set_option linter.unusedVariables false
set_option linter.unusedSimpArgs false

/-! ### dates_Days: function 20 -/
def dates_Days.j0 : Nat → Int → Bool → Int → Int → Int → Int → Int → Int → Option (Int)
  | 0, _, _, _, _, _, _, _, _ => none
  | k + 1, x2, x30, x188000, x188001, x188002, x189000, x189001, x189002 => if x30 = true then (some 0) else ((dates_Number.f k (wrap64 (Int.tdiv x2 12)) (wrap64 ((Int.tmod x2 12) + 1)) 1).bind fun bt191 => ((dates_Number.f k x188000 x188001 x188002).bind fun bt193 => ((dates_Number.f k x189000 x189001 x189002).bind fun bt195 => ((dates_Length.f k (wrap64 (Int.tdiv x2 12)) (wrap64 ((Int.tmod x2 12) + 1))).bind fun t197 => (some (mx 0 (wrap64 ((wrap64 ((mn bt195.1 (wrap64 ((wrap64 (bt191.1 + t197)) - 1))) - (mx bt193.1 bt191.1))) + 1))))))))
def dates_Days.f (k : Nat) (a0_0 : Int) (a0_1 : Int) (a0_2 : Int) (a1_0 : Int) (a1_1 : Int) (a1_2 : Int) (a2 : Int) : Option (Int) := (dates_Right.f k a0_0 a0_1 a0_2).bind fun t189 => (if t189 = true then ((dates_Right.f k a1_0 a1_1 a1_2).bind fun t190 => (if t190 = true then (if a2 < 22800 then (dates_Days.j0 k a2 true a0_0 a0_1 a0_2 a1_0 a1_1 a1_2) else (dates_Days.j0 k a2 (decide (a2 ≥ 36000)) a0_0 a0_1 a0_2 a1_0 a1_1 a1_2)) else (dates_Days.j0 k a2 true a0_0 a0_1 a0_2 a1_0 a1_1 a1_2))) else (dates_Days.j0 k a2 true a0_0 a0_1 a0_2 a1_0 a1_1 a1_2))
theorem dates_Days.mono_l : ∀ k, (∀ y0 y1 y2 y3 y4 y5 y6 y7, LeO (dates_Days.j0 k y0 y1 y2 y3 y4 y5 y6 y7) (dates_Days.j0 (k + 1) y0 y1 y2 y3 y4 y5 y6 y7))
  | 0 => fun _ _ _ _ _ _ _ _ r h => by simp [dates_Days.j0] at h
  | k + 1 => by
    have ih0 := dates_Days.mono_l k
    · intro y0 y1 y2 y3 y4 y5 y6 y7
      unfold dates_Days.j0
      repeat' first
      | (with_reducible exact ih0 _ _ _ _ _ _ _ _)
      | (with_reducible exact dates_Length.mono _ _ _)
      | (with_reducible exact dates_Number.mono _ _ _ _)
      | (with_reducible exact dates_Right.mono _ _ _ _)
      | (with_reducible exact LeO.refl _)
      | (with_reducible exact LeO.none _)
      | (with_reducible refine LeO.ite ?_ ?_)
      | (with_reducible refine LeO.bind ?_ (fun _ => ?_))
      | exact ih0 _ _ _ _ _ _ _ _
      | exact dates_Length.mono _ _ _
      | exact dates_Number.mono _ _ _ _
      | exact dates_Right.mono _ _ _ _
      | exact LeO.none _
      | refine LeO.ite ?_ ?_
      | refine LeO.bind ?_ (fun _ => ?_)
theorem dates_Days.mono : ∀ a0 a1 a2 a3 a4 a5 a6 k, LeO (dates_Days.f k a0 a1 a2 a3 a4 a5 a6) (dates_Days.f (k + 1) a0 a1 a2 a3 a4 a5 a6) := by
  intro a0 a1 a2 a3 a4 a5 a6 k
  have ih0 := dates_Days.mono_l k
  unfold dates_Days.f
  repeat' first
      | (with_reducible exact ih0 _ _ _ _ _ _ _ _)
      | (with_reducible exact dates_Length.mono _ _ _)
      | (with_reducible exact dates_Number.mono _ _ _ _)
      | (with_reducible exact dates_Right.mono _ _ _ _)
      | (with_reducible exact LeO.refl _)
      | (with_reducible exact LeO.none _)
      | (with_reducible refine LeO.ite ?_ ?_)
      | (with_reducible refine LeO.bind ?_ (fun _ => ?_))
      | exact ih0 _ _ _ _ _ _ _ _
      | exact dates_Length.mono _ _ _
      | exact dates_Number.mono _ _ _ _
      | exact dates_Right.mono _ _ _ _
      | exact LeO.none _
      | refine LeO.ite ?_ ?_
      | refine LeO.bind ?_ (fun _ => ?_)
set_option maxHeartbeats 8000000 in
set_option maxRecDepth 100000 in
theorem dates_Days.calls (k : Nat) (a0_0 : Int) (a0_1 : Int) (a0_2 : Int) (a1_0 : Int) (a1_1 : Int) (a1_2 : Int) (a2 : Int) (r : Int) (w : World) (h : dates_Days.f k a0_0 a0_1 a0_2 a1_0 a1_1 a1_2 a2 = some r) :
    Calls Try.prog 20 #[.agg #[.int .i64 a0_0, .int .i64 a0_1, .int .i64 a0_2], .agg #[.int .i64 a1_0, .int .i64 a1_1, .int .i64 a1_2], .int .i64 a2] w fun e w' => e = .returned (.int .i64 r) ∧ Below w.heap.size w w' := by
  have hu23 := Try.underlying23
  have HB := Aside0.mk (Below.refl w.heap.size w)
  have H : ((dates_Right.f k a0_0 a0_1 a0_2).bind fun t189 => (if t189 = true then ((dates_Right.f k a1_0 a1_1 a1_2).bind fun t190 => (if t190 = true then (if a2 < 22800 then (dates_Days.j0 k a2 true a0_0 a0_1 a0_2 a1_0 a1_1 a1_2) else (dates_Days.j0 k a2 (decide (a2 ≥ 36000)) a0_0 a0_1 a0_2 a1_0 a1_1 a1_2)) else (dates_Days.j0 k a2 true a0_0 a0_1 a0_2 a1_0 a1_1 a1_2))) else (dates_Days.j0 k a2 true a0_0 a0_1 a0_2 a1_0 a1_1 a1_2))) = some r := h
  clear h
  have HC4 := Aside0.mk H
  clear H
  go_enter Try.func20, Try.ntmps20
  go_upto_region 1 with (first | ((with_reducible refine gate_dst (N := 3) rfl ?_); refine box_event ?hg (N := 3) ?hd (cs := #[.int .i64 a0_0, .int .i64 a0_1, .int .i64 a0_2]) (t := 23) ?hr ?_; (case hd => rfl); (case hg => rfl); (case hr => first | (go_simp; done) | (go_simp; rfl)); intro gb187 hg w5 hbox hb; have n0_ := Aside0.mk (below_step (by repeat (first | (with_reducible first | exact HB.out | apply below_alloc | apply pw_below_drewN | apply below_drew1) | exact HB.out)) hb); have n1_ := Aside0.mk (hbox); have n2_ := Aside0.mk ((by rw [hg]; exact (below_size (by repeat (first | (with_reducible first | exact HB.out | apply below_alloc | apply pw_below_drewN | apply below_drew1) | exact HB.out))) : w.heap.size ≤ gb187)); have n3_ := Aside0.mk ((by rw [hg]; exact (below_size (by repeat (first | (with_reducible first | exact HB.out | apply below_alloc | apply pw_below_drewN | apply below_drew1) | exact HB.out))) : w.heap.size ≤ gb187)); clear HB; have HB := n0_; have BK187 := n1_; have GW187 := n2_; have GE187 := n3_; clear n0_ n1_ n2_ n3_; clear hb hbox hg) | ((with_reducible refine gate_dst (N := 4) rfl ?_); refine box_event ?hg (N := 4) ?hd (cs := #[.int .i64 a1_0, .int .i64 a1_1, .int .i64 a1_2]) (t := 23) ?hr ?_; (case hd => rfl); (case hg => rfl); (case hr => first | (go_simp; done) | (go_simp; rfl)); intro gb188 hg w6 hbox hb; have n0_ := Aside0.mk (blk_below (g := gb187) (o := .cells #[.int .i64 a0_0, .int .i64 a0_1, .int .i64 a0_2] 23 (0, 0)) (by (with_reducible repeat (first | refine blk_drewN ?_ _ | refine blk_drew ?_ | refine blk_alloc ?_ _)); exact BK187.out) hb); have n1_ := Aside0.mk (below_step (by repeat (first | (with_reducible first | exact HB.out | apply below_alloc | apply pw_below_drewN | apply below_drew1 | refine below_set ?_ GE187.out) | exact HB.out)) hb); have n2_ := Aside0.mk (hbox); have n3_ := Aside0.mk ((by rw [hg]; exact (below_size (by repeat (first | (with_reducible first | exact HB.out | apply below_alloc | apply pw_below_drewN | apply below_drew1 | refine below_set ?_ GE187.out) | exact HB.out))) : w.heap.size ≤ gb188)); have n4_ := Aside0.mk ((by rw [hg]; exact (below_size (by repeat (first | (with_reducible first | exact HB.out | apply below_alloc | apply pw_below_drewN | apply below_drew1 | refine below_set ?_ GE187.out) | exact HB.out))) : w.heap.size ≤ gb188)); have n5_ := Aside0.mk ((by rw [hg]; exact Nat.ne_of_lt (blk_lt (g := gb187) (o := .cells #[.int .i64 a0_0, .int .i64 a0_1, .int .i64 a0_2] 23 (0, 0)) (by (with_reducible repeat (first | refine blk_drewN ?_ _ | refine blk_drew ?_ | refine blk_alloc ?_ _)); exact BK187.out)) : gb187 ≠ gb188)); have n6_ := Aside0.mk ((by rw [hg]; exact Nat.ne_of_gt (blk_lt (g := gb187) (o := .cells #[.int .i64 a0_0, .int .i64 a0_1, .int .i64 a0_2] 23 (0, 0)) (by (with_reducible repeat (first | refine blk_drewN ?_ _ | refine blk_drew ?_ | refine blk_alloc ?_ _)); exact BK187.out)) : gb188 ≠ gb187)); clear BK187; clear HB; have BK187 := n0_; have HB := n1_; have BK188 := n2_; have GW188 := n3_; have GE188 := n4_; have NB187_188 := n5_; have NB188_187 := n6_; clear n0_ n1_ n2_ n3_ n4_ n5_ n6_; clear hb hbox hg))
  (try simp only [Act.put, List.setIfInBounds_toArray, List.set_cons_zero, List.set_cons_succ])
  go_cut [30] (fun v30 wc => ∃ (kq : Nat) (x30_3 : Bool), v30 = .bool x30_3 ∧ Aside0 (dates_Days.j0 kq a2 x30_3 a0_0 a0_1 a0_2 a1_0 a1_1 a1_2 = some r) ∧ Aside0 (kq ≤ k) ∧ Aside0 (wc.heap[gb187]? = some (.cells #[.int .i64 a0_0, .int .i64 a0_1, .int .i64 a0_2] 23 (0, 0))) ∧ Aside0 (wc.heap[gb188]? = some (.cells #[.int .i64 a1_0, .int .i64 a1_1, .int .i64 a1_2] 23 (0, 0))) ∧ Aside0 (Below w.heap.size w wc))
  case first =>
    have H := HC4.out
    clear HC4
    replace H := Option.bind_eq_some_iff.mp H
    obtain ⟨t189, A70, H⟩ := H
    replace H : (if t189 = true then ((dates_Right.f k a1_0 a1_1 a1_2).bind fun t190 => (if t190 = true then (if a2 < 22800 then (dates_Days.j0 k a2 true a0_0 a0_1 a0_2 a1_0 a1_1 a1_2) else (dates_Days.j0 k a2 (decide (a2 ≥ 36000)) a0_0 a0_1 a0_2 a1_0 a1_1 a1_2)) else (dates_Days.j0 k a2 true a0_0 a0_1 a0_2 a1_0 a1_1 a1_2))) else (dates_Days.j0 k a2 true a0_0 a0_1 a0_2 a1_0 a1_1 a1_2)) = some r := H
    have A7 := Aside0.mk A70
    clear A70
    by_cases c8 : t189 = true
    · subst c8
      have H1 : ((dates_Right.f k a1_0 a1_1 a1_2).bind fun t190 => (if t190 = true then (if a2 < 22800 then (dates_Days.j0 k a2 true a0_0 a0_1 a0_2 a1_0 a1_1 a1_2) else (dates_Days.j0 k a2 (decide (a2 ≥ 36000)) a0_0 a0_1 a0_2 a1_0 a1_1 a1_2)) else (dates_Days.j0 k a2 true a0_0 a0_1 a0_2 a1_0 a1_1 a1_2))) = some r := by rw [if_pos rfl] at H; exact H
      clear H
      have H := H1
      clear H1
      replace H := Option.bind_eq_some_iff.mp H
      obtain ⟨t190, A90, H⟩ := H
      replace H : (if t190 = true then (if a2 < 22800 then (dates_Days.j0 k a2 true a0_0 a0_1 a0_2 a1_0 a1_1 a1_2) else (dates_Days.j0 k a2 (decide (a2 ≥ 36000)) a0_0 a0_1 a0_2 a1_0 a1_1 a1_2)) else (dates_Days.j0 k a2 true a0_0 a0_1 a0_2 a1_0 a1_1 a1_2)) = some r := H
      have A9 := Aside0.mk A90
      clear A90
      by_cases c10 : t190 = true
      · subst c10
        have H1 : (if a2 < 22800 then (dates_Days.j0 k a2 true a0_0 a0_1 a0_2 a1_0 a1_1 a1_2) else (dates_Days.j0 k a2 (decide (a2 ≥ 36000)) a0_0 a0_1 a0_2 a1_0 a1_1 a1_2)) = some r := by rw [if_pos rfl] at H; exact H
        clear H
        have H := H1
        clear H1
        by_cases c11 : a2 < 22800
        · rw [if_pos c11] at H
          have c11b0 : decide (a2 < 22800) = true := decide_eq_true c11
          clear c11
          (first | rw [c11b0] | (simp only [i64_w, i32_w]; rw [c11b0]) | skip)
          have H' := Aside0.mk H
          clear H
          have hnb12 := NB187_188.out
          have hnc12 := NB188_187.out
          have hcz13_0 : w6.cell? ⟨gb187, 0, none⟩ = some (.int .i64 a0_0) := (blk_cell BK187.out 0).trans rfl
          have hcz13_1 : w6.cell? ⟨gb187, 1, none⟩ = some (.int .i64 a0_1) := (blk_cell BK187.out 1).trans rfl
          have hcz13_2 : w6.cell? ⟨gb187, 2, none⟩ = some (.int .i64 a0_2) := (blk_cell BK187.out 2).trans rfl
          have hfz13_0 := blk_frozen BK187.out 0
          have hfz13_1 := blk_frozen BK187.out 1
          have hfz13_2 := blk_frozen BK187.out 2
          go_wp2_with (first | ((with_reducible refine gate_callee (f := 18) rfl ?_); refine goesL_ (some 16) rfl rfl Try.func18 (by kernel_rfl) rfl #[.agg #[.int .i64 a0_0, .int .i64 a0_1, .int .i64 a0_2]] rfl (by (try simp only [List.map_toArray, List.map_cons, List.map_nil]); first | done | rfl | (simp only [List.length_drop, List.length_take]; rfl)) ?_; (with_reducible refine (dates_Right.calls k a0_0 a0_1 a0_2 true _ A7.out).mono ?_); rintro e w14 ⟨rfl, hb⟩; refine ⟨_, rfl, ?_⟩; have n0_ := Aside0.mk (blk_below (g := gb187) (o := .cells #[.int .i64 a0_0, .int .i64 a0_1, .int .i64 a0_2] 23 (0, 0)) (by (with_reducible repeat (first | refine blk_drewN ?_ _ | refine blk_drew ?_ | refine blk_alloc ?_ _)); exact BK187.out) hb); have n1_ := Aside0.mk (blk_below (g := gb188) (o := .cells #[.int .i64 a1_0, .int .i64 a1_1, .int .i64 a1_2] 23 (0, 0)) (by (with_reducible repeat (first | refine blk_drewN ?_ _ | refine blk_drew ?_ | refine blk_alloc ?_ _)); exact BK188.out) hb); have n2_ := Aside0.mk (below_step (by repeat (first | (with_reducible first | exact HB.out | apply below_alloc | apply pw_below_drewN | apply below_drew1 | refine below_set ?_ GE187.out | refine below_set ?_ GE188.out) | exact HB.out)) hb); clear BK187; clear BK188; clear HB; have BK187 := n0_; have BK188 := n1_; have HB := n2_; clear n0_ n1_ n2_; (try clear hb); (try clear hb2); (try clear hk); (try clear hi); have hcz15_0 : w14.cell? ⟨gb188, 0, none⟩ = some (.int .i64 a1_0) := (blk_cell BK188.out 0).trans rfl; have hcz15_1 : w14.cell? ⟨gb188, 1, none⟩ = some (.int .i64 a1_1) := (blk_cell BK188.out 1).trans rfl; have hcz15_2 : w14.cell? ⟨gb188, 2, none⟩ = some (.int .i64 a1_2) := (blk_cell BK188.out 2).trans rfl; have hfz15_0 := blk_frozen BK188.out 0; have hfz15_1 := blk_frozen BK188.out 1; have hfz15_2 := blk_frozen BK188.out 2) | (go_at_call 18; (with_reducible refine (dates_Right.calls k a1_0 a1_1 a1_2 true _ A9.out).mono ?_); rintro e w16 ⟨rfl, hb⟩; have n0_ := Aside0.mk (blk_below (g := gb187) (o := .cells #[.int .i64 a0_0, .int .i64 a0_1, .int .i64 a0_2] 23 (0, 0)) (by (with_reducible repeat (first | refine blk_drewN ?_ _ | refine blk_drew ?_ | refine blk_alloc ?_ _)); exact BK187.out) hb); have n1_ := Aside0.mk (blk_below (g := gb188) (o := .cells #[.int .i64 a1_0, .int .i64 a1_1, .int .i64 a1_2] 23 (0, 0)) (by (with_reducible repeat (first | refine blk_drewN ?_ _ | refine blk_drew ?_ | refine blk_alloc ?_ _)); exact BK188.out) hb); have n2_ := Aside0.mk (below_step (by repeat (first | (with_reducible first | exact HB.out | apply below_alloc | apply pw_below_drewN | apply below_drew1 | refine below_set ?_ GE187.out | refine below_set ?_ GE188.out) | exact HB.out)) hb); clear BK187; clear BK188; clear HB; have BK187 := n0_; have BK188 := n1_; have HB := n2_; clear n0_ n1_ n2_; (try clear hb); (try clear hb2); (try clear hk); (try clear hi)))
          go_meet
          case rel => exact ⟨_, (true), (by first | rfl | (simp; done) | (simp [*]; done)), H', ⟨by first | omega | exact Nat.le_refl _⟩, ⟨by (with_reducible repeat (first | refine blk_drewN ?_ _ | refine blk_drew ?_ | refine blk_alloc ?_ _)); exact BK187.out⟩, ⟨by (with_reducible repeat (first | refine blk_drewN ?_ _ | refine blk_drew ?_ | refine blk_alloc ?_ _)); exact BK188.out⟩, ⟨by repeat (first | (with_reducible first | exact HB.out | apply below_alloc | apply pw_below_drewN | apply below_drew1 | refine below_set ?_ GE187.out | refine below_set ?_ GE188.out) | exact HB.out)⟩⟩
        · rw [if_neg c11] at H
          have c11b0 : decide (a2 < 22800) = false := decide_eq_false c11
          clear c11
          (first | rw [c11b0] | (simp only [i64_w, i32_w]; rw [c11b0]) | skip)
          have H' := Aside0.mk H
          clear H
          have hnb17 := NB187_188.out
          have hnc17 := NB188_187.out
          have hcz18_0 : w6.cell? ⟨gb187, 0, none⟩ = some (.int .i64 a0_0) := (blk_cell BK187.out 0).trans rfl
          have hcz18_1 : w6.cell? ⟨gb187, 1, none⟩ = some (.int .i64 a0_1) := (blk_cell BK187.out 1).trans rfl
          have hcz18_2 : w6.cell? ⟨gb187, 2, none⟩ = some (.int .i64 a0_2) := (blk_cell BK187.out 2).trans rfl
          have hfz18_0 := blk_frozen BK187.out 0
          have hfz18_1 := blk_frozen BK187.out 1
          have hfz18_2 := blk_frozen BK187.out 2
          go_wp2_with (first | ((with_reducible refine gate_callee (f := 18) rfl ?_); refine goesL_ (some 16) rfl rfl Try.func18 (by kernel_rfl) rfl #[.agg #[.int .i64 a0_0, .int .i64 a0_1, .int .i64 a0_2]] rfl (by (try simp only [List.map_toArray, List.map_cons, List.map_nil]); first | done | rfl | (simp only [List.length_drop, List.length_take]; rfl)) ?_; (with_reducible refine (dates_Right.calls k a0_0 a0_1 a0_2 true _ A7.out).mono ?_); rintro e w19 ⟨rfl, hb⟩; refine ⟨_, rfl, ?_⟩; have n0_ := Aside0.mk (blk_below (g := gb187) (o := .cells #[.int .i64 a0_0, .int .i64 a0_1, .int .i64 a0_2] 23 (0, 0)) (by (with_reducible repeat (first | refine blk_drewN ?_ _ | refine blk_drew ?_ | refine blk_alloc ?_ _)); exact BK187.out) hb); have n1_ := Aside0.mk (blk_below (g := gb188) (o := .cells #[.int .i64 a1_0, .int .i64 a1_1, .int .i64 a1_2] 23 (0, 0)) (by (with_reducible repeat (first | refine blk_drewN ?_ _ | refine blk_drew ?_ | refine blk_alloc ?_ _)); exact BK188.out) hb); have n2_ := Aside0.mk (below_step (by repeat (first | (with_reducible first | exact HB.out | apply below_alloc | apply pw_below_drewN | apply below_drew1 | refine below_set ?_ GE187.out | refine below_set ?_ GE188.out) | exact HB.out)) hb); clear BK187; clear BK188; clear HB; have BK187 := n0_; have BK188 := n1_; have HB := n2_; clear n0_ n1_ n2_; (try clear hb); (try clear hb2); (try clear hk); (try clear hi); have hcz20_0 : w19.cell? ⟨gb188, 0, none⟩ = some (.int .i64 a1_0) := (blk_cell BK188.out 0).trans rfl; have hcz20_1 : w19.cell? ⟨gb188, 1, none⟩ = some (.int .i64 a1_1) := (blk_cell BK188.out 1).trans rfl; have hcz20_2 : w19.cell? ⟨gb188, 2, none⟩ = some (.int .i64 a1_2) := (blk_cell BK188.out 2).trans rfl; have hfz20_0 := blk_frozen BK188.out 0; have hfz20_1 := blk_frozen BK188.out 1; have hfz20_2 := blk_frozen BK188.out 2) | (go_at_call 18; (with_reducible refine (dates_Right.calls k a1_0 a1_1 a1_2 true _ A9.out).mono ?_); rintro e w21 ⟨rfl, hb⟩; have n0_ := Aside0.mk (blk_below (g := gb187) (o := .cells #[.int .i64 a0_0, .int .i64 a0_1, .int .i64 a0_2] 23 (0, 0)) (by (with_reducible repeat (first | refine blk_drewN ?_ _ | refine blk_drew ?_ | refine blk_alloc ?_ _)); exact BK187.out) hb); have n1_ := Aside0.mk (blk_below (g := gb188) (o := .cells #[.int .i64 a1_0, .int .i64 a1_1, .int .i64 a1_2] 23 (0, 0)) (by (with_reducible repeat (first | refine blk_drewN ?_ _ | refine blk_drew ?_ | refine blk_alloc ?_ _)); exact BK188.out) hb); have n2_ := Aside0.mk (below_step (by repeat (first | (with_reducible first | exact HB.out | apply below_alloc | apply pw_below_drewN | apply below_drew1 | refine below_set ?_ GE187.out | refine below_set ?_ GE188.out) | exact HB.out)) hb); clear BK187; clear BK188; clear HB; have BK187 := n0_; have BK188 := n1_; have HB := n2_; clear n0_ n1_ n2_; (try clear hb); (try clear hb2); (try clear hk); (try clear hi)))
          go_meet
          case rel => exact ⟨_, (decide (a2 ≥ 36000)), (by first | rfl | (simp; done) | (simp [*]; done)), H', ⟨by first | omega | exact Nat.le_refl _⟩, ⟨by (with_reducible repeat (first | refine blk_drewN ?_ _ | refine blk_drew ?_ | refine blk_alloc ?_ _)); exact BK187.out⟩, ⟨by (with_reducible repeat (first | refine blk_drewN ?_ _ | refine blk_drew ?_ | refine blk_alloc ?_ _)); exact BK188.out⟩, ⟨by repeat (first | (with_reducible first | exact HB.out | apply below_alloc | apply pw_below_drewN | apply below_drew1 | refine below_set ?_ GE187.out | refine below_set ?_ GE188.out) | exact HB.out)⟩⟩
      · replace c10 := Bool.eq_false_iff.mpr c10
        subst c10
        have H1 : (dates_Days.j0 k a2 true a0_0 a0_1 a0_2 a1_0 a1_1 a1_2) = some r := by rw [if_neg (show ¬ (false = true) by decide)] at H; exact H
        clear H
        have H := H1
        clear H1
        have H' := Aside0.mk H
        clear H
        have hnb22 := NB187_188.out
        have hnc22 := NB188_187.out
        have hcz23_0 : w6.cell? ⟨gb187, 0, none⟩ = some (.int .i64 a0_0) := (blk_cell BK187.out 0).trans rfl
        have hcz23_1 : w6.cell? ⟨gb187, 1, none⟩ = some (.int .i64 a0_1) := (blk_cell BK187.out 1).trans rfl
        have hcz23_2 : w6.cell? ⟨gb187, 2, none⟩ = some (.int .i64 a0_2) := (blk_cell BK187.out 2).trans rfl
        have hfz23_0 := blk_frozen BK187.out 0
        have hfz23_1 := blk_frozen BK187.out 1
        have hfz23_2 := blk_frozen BK187.out 2
        go_wp2_with (first | ((with_reducible refine gate_callee (f := 18) rfl ?_); refine goesL_ (some 16) rfl rfl Try.func18 (by kernel_rfl) rfl #[.agg #[.int .i64 a0_0, .int .i64 a0_1, .int .i64 a0_2]] rfl (by (try simp only [List.map_toArray, List.map_cons, List.map_nil]); first | done | rfl | (simp only [List.length_drop, List.length_take]; rfl)) ?_; (with_reducible refine (dates_Right.calls k a0_0 a0_1 a0_2 true _ A7.out).mono ?_); rintro e w24 ⟨rfl, hb⟩; refine ⟨_, rfl, ?_⟩; have n0_ := Aside0.mk (blk_below (g := gb187) (o := .cells #[.int .i64 a0_0, .int .i64 a0_1, .int .i64 a0_2] 23 (0, 0)) (by (with_reducible repeat (first | refine blk_drewN ?_ _ | refine blk_drew ?_ | refine blk_alloc ?_ _)); exact BK187.out) hb); have n1_ := Aside0.mk (blk_below (g := gb188) (o := .cells #[.int .i64 a1_0, .int .i64 a1_1, .int .i64 a1_2] 23 (0, 0)) (by (with_reducible repeat (first | refine blk_drewN ?_ _ | refine blk_drew ?_ | refine blk_alloc ?_ _)); exact BK188.out) hb); have n2_ := Aside0.mk (below_step (by repeat (first | (with_reducible first | exact HB.out | apply below_alloc | apply pw_below_drewN | apply below_drew1 | refine below_set ?_ GE187.out | refine below_set ?_ GE188.out) | exact HB.out)) hb); clear BK187; clear BK188; clear HB; have BK187 := n0_; have BK188 := n1_; have HB := n2_; clear n0_ n1_ n2_; (try clear hb); (try clear hb2); (try clear hk); (try clear hi); have hcz25_0 : w24.cell? ⟨gb188, 0, none⟩ = some (.int .i64 a1_0) := (blk_cell BK188.out 0).trans rfl; have hcz25_1 : w24.cell? ⟨gb188, 1, none⟩ = some (.int .i64 a1_1) := (blk_cell BK188.out 1).trans rfl; have hcz25_2 : w24.cell? ⟨gb188, 2, none⟩ = some (.int .i64 a1_2) := (blk_cell BK188.out 2).trans rfl; have hfz25_0 := blk_frozen BK188.out 0; have hfz25_1 := blk_frozen BK188.out 1; have hfz25_2 := blk_frozen BK188.out 2) | (go_at_call 18; (with_reducible refine (dates_Right.calls k a1_0 a1_1 a1_2 false _ A9.out).mono ?_); rintro e w26 ⟨rfl, hb⟩; have n0_ := Aside0.mk (blk_below (g := gb187) (o := .cells #[.int .i64 a0_0, .int .i64 a0_1, .int .i64 a0_2] 23 (0, 0)) (by (with_reducible repeat (first | refine blk_drewN ?_ _ | refine blk_drew ?_ | refine blk_alloc ?_ _)); exact BK187.out) hb); have n1_ := Aside0.mk (blk_below (g := gb188) (o := .cells #[.int .i64 a1_0, .int .i64 a1_1, .int .i64 a1_2] 23 (0, 0)) (by (with_reducible repeat (first | refine blk_drewN ?_ _ | refine blk_drew ?_ | refine blk_alloc ?_ _)); exact BK188.out) hb); have n2_ := Aside0.mk (below_step (by repeat (first | (with_reducible first | exact HB.out | apply below_alloc | apply pw_below_drewN | apply below_drew1 | refine below_set ?_ GE187.out | refine below_set ?_ GE188.out) | exact HB.out)) hb); clear BK187; clear BK188; clear HB; have BK187 := n0_; have BK188 := n1_; have HB := n2_; clear n0_ n1_ n2_; (try clear hb); (try clear hb2); (try clear hk); (try clear hi)))
        go_meet
        case rel => exact ⟨_, (true), (by first | rfl | (simp; done) | (simp [*]; done)), H', ⟨by first | omega | exact Nat.le_refl _⟩, ⟨by (with_reducible repeat (first | refine blk_drewN ?_ _ | refine blk_drew ?_ | refine blk_alloc ?_ _)); exact BK187.out⟩, ⟨by (with_reducible repeat (first | refine blk_drewN ?_ _ | refine blk_drew ?_ | refine blk_alloc ?_ _)); exact BK188.out⟩, ⟨by repeat (first | (with_reducible first | exact HB.out | apply below_alloc | apply pw_below_drewN | apply below_drew1 | refine below_set ?_ GE187.out | refine below_set ?_ GE188.out) | exact HB.out)⟩⟩
    · replace c8 := Bool.eq_false_iff.mpr c8
      subst c8
      have H1 : (dates_Days.j0 k a2 true a0_0 a0_1 a0_2 a1_0 a1_1 a1_2) = some r := by rw [if_neg (show ¬ (false = true) by decide)] at H; exact H
      clear H
      have H := H1
      clear H1
      have H' := Aside0.mk H
      clear H
      have hnb27 := NB187_188.out
      have hnc27 := NB188_187.out
      have hcz28_0 : w6.cell? ⟨gb187, 0, none⟩ = some (.int .i64 a0_0) := (blk_cell BK187.out 0).trans rfl
      have hcz28_1 : w6.cell? ⟨gb187, 1, none⟩ = some (.int .i64 a0_1) := (blk_cell BK187.out 1).trans rfl
      have hcz28_2 : w6.cell? ⟨gb187, 2, none⟩ = some (.int .i64 a0_2) := (blk_cell BK187.out 2).trans rfl
      have hfz28_0 := blk_frozen BK187.out 0
      have hfz28_1 := blk_frozen BK187.out 1
      have hfz28_2 := blk_frozen BK187.out 2
      go_wp2_with (first | ((with_reducible refine gate_callee (f := 18) rfl ?_); refine goesL_ (some 16) rfl rfl Try.func18 (by kernel_rfl) rfl #[.agg #[.int .i64 a0_0, .int .i64 a0_1, .int .i64 a0_2]] rfl (by (try simp only [List.map_toArray, List.map_cons, List.map_nil]); first | done | rfl | (simp only [List.length_drop, List.length_take]; rfl)) ?_; (with_reducible refine (dates_Right.calls k a0_0 a0_1 a0_2 false _ A7.out).mono ?_); rintro e w29 ⟨rfl, hb⟩; refine ⟨_, rfl, ?_⟩; have n0_ := Aside0.mk (blk_below (g := gb187) (o := .cells #[.int .i64 a0_0, .int .i64 a0_1, .int .i64 a0_2] 23 (0, 0)) (by (with_reducible repeat (first | refine blk_drewN ?_ _ | refine blk_drew ?_ | refine blk_alloc ?_ _)); exact BK187.out) hb); have n1_ := Aside0.mk (blk_below (g := gb188) (o := .cells #[.int .i64 a1_0, .int .i64 a1_1, .int .i64 a1_2] 23 (0, 0)) (by (with_reducible repeat (first | refine blk_drewN ?_ _ | refine blk_drew ?_ | refine blk_alloc ?_ _)); exact BK188.out) hb); have n2_ := Aside0.mk (below_step (by repeat (first | (with_reducible first | exact HB.out | apply below_alloc | apply pw_below_drewN | apply below_drew1 | refine below_set ?_ GE187.out | refine below_set ?_ GE188.out) | exact HB.out)) hb); clear BK187; clear BK188; clear HB; have BK187 := n0_; have BK188 := n1_; have HB := n2_; clear n0_ n1_ n2_; (try clear hb); (try clear hb2); (try clear hk); (try clear hi)))
      go_meet
      case rel => exact ⟨_, (true), (by first | rfl | (simp; done) | (simp [*]; done)), H', ⟨by first | omega | exact Nat.le_refl _⟩, ⟨by (with_reducible repeat (first | refine blk_drewN ?_ _ | refine blk_drew ?_ | refine blk_alloc ?_ _)); exact BK187.out⟩, ⟨by (with_reducible repeat (first | refine blk_drewN ?_ _ | refine blk_drew ?_ | refine blk_alloc ?_ _)); exact BK188.out⟩, ⟨by repeat (first | (with_reducible first | exact HB.out | apply below_alloc | apply pw_below_drewN | apply below_drew1 | refine below_set ?_ GE187.out | refine below_set ?_ GE188.out) | exact HB.out)⟩⟩
  case rest =>
    clear HC4
    try clear c1
    try clear c2
    try clear p2
    try clear c8
    try clear c10
    try clear c11
    try clear c11b0
    try clear c12
    try clear c17
    try clear c18
    try clear c20
    try clear c22
    try clear c27
    try clear hcz13_0
    try clear hcz13_1
    try clear hcz13_2
    try clear hcz15_0
    try clear hcz15_1
    try clear hcz15_2
    try clear hcz18_0
    try clear hcz18_1
    try clear hcz18_2
    try clear hcz20_0
    try clear hcz20_1
    try clear hcz20_2
    try clear hcz23_0
    try clear hcz23_1
    try clear hcz23_2
    try clear hcz25_0
    try clear hcz25_1
    try clear hcz25_2
    try clear hcz28_0
    try clear hcz28_1
    try clear hcz28_2
    try clear hfz13_0
    try clear hfz13_1
    try clear hfz13_2
    try clear hfz15_0
    try clear hfz15_1
    try clear hfz15_2
    try clear hfz18_0
    try clear hfz18_1
    try clear hfz18_2
    try clear hfz20_0
    try clear hfz20_1
    try clear hfz20_2
    try clear hfz23_0
    try clear hfz23_1
    try clear hfz23_2
    try clear hfz25_0
    try clear hfz25_1
    try clear hfz25_2
    try clear hfz28_0
    try clear hfz28_1
    try clear hfz28_2
    obtain ⟨kq, x30_3, rfl, HA, HJ3, BK187, BK188, HB⟩ := hcut
    cases kq with
    | zero => exact absurd HA.out (by simp [dates_Days.j0])
    | succ kj3 =>
      have H := HA.out
      clear HA
      simp only [dates_Days.j0] at H
      by_cases c30 : x30_3 = true
      · subst c30
        have H1 : (some 0) = some r := by rw [if_pos rfl] at H; exact H
        clear H
        have H := H1
        clear H1
        obtain rfl := Option.some.inj H
        go_wp2
        go_ret
        exact ⟨by first | rfl | (simp [errW_none, errW_some] <;> rfl) | (simp [*, errW_none, errW_some] <;> rfl), by repeat (first | (with_reducible first | exact HB.out | apply below_alloc | apply pw_below_drewN | apply below_drew1 | refine below_set ?_ GE187.out | refine below_set ?_ GE188.out) | exact HB.out)⟩
      · replace c30 := Bool.eq_false_iff.mpr c30
        subst c30
        have H1 : ((dates_Number.f kj3 (wrap64 (Int.tdiv a2 12)) (wrap64 ((Int.tmod a2 12) + 1)) 1).bind fun bt191 => ((dates_Number.f kj3 a0_0 a0_1 a0_2).bind fun bt193 => ((dates_Number.f kj3 a1_0 a1_1 a1_2).bind fun bt195 => ((dates_Length.f kj3 (wrap64 (Int.tdiv a2 12)) (wrap64 ((Int.tmod a2 12) + 1))).bind fun t197 => (some (mx 0 (wrap64 ((wrap64 ((mn bt195.1 (wrap64 ((wrap64 (bt191.1 + t197)) - 1))) - (mx bt193.1 bt191.1))) + 1)))))))) = some r := by rw [if_neg (show ¬ (false = true) by decide)] at H; exact H
        clear H
        have H := H1
        clear H1
        replace H := Option.bind_eq_some_iff.mp H
        obtain ⟨⟨t191, t192⟩, A310, H⟩ := H
        replace H : ((dates_Number.f kj3 a0_0 a0_1 a0_2).bind fun bt193 => ((dates_Number.f kj3 a1_0 a1_1 a1_2).bind fun bt195 => ((dates_Length.f kj3 (wrap64 (Int.tdiv a2 12)) (wrap64 ((Int.tmod a2 12) + 1))).bind fun t197 => (some (mx 0 (wrap64 ((wrap64 ((mn bt195.1 (wrap64 ((wrap64 (t191 + t197)) - 1))) - (mx bt193.1 t191))) + 1))))))) = some r := H
        have A31 := Aside0.mk A310
        clear A310
        replace H := Option.bind_eq_some_iff.mp H
        obtain ⟨⟨t193, t194⟩, A320, H⟩ := H
        replace H : ((dates_Number.f kj3 a1_0 a1_1 a1_2).bind fun bt195 => ((dates_Length.f kj3 (wrap64 (Int.tdiv a2 12)) (wrap64 ((Int.tmod a2 12) + 1))).bind fun t197 => (some (mx 0 (wrap64 ((wrap64 ((mn bt195.1 (wrap64 ((wrap64 (t191 + t197)) - 1))) - (mx t193 t191))) + 1)))))) = some r := H
        have A32 := Aside0.mk A320
        clear A320
        replace H := Option.bind_eq_some_iff.mp H
        obtain ⟨⟨t195, t196⟩, A330, H⟩ := H
        replace H : ((dates_Length.f kj3 (wrap64 (Int.tdiv a2 12)) (wrap64 ((Int.tmod a2 12) + 1))).bind fun t197 => (some (mx 0 (wrap64 ((wrap64 ((mn t195 (wrap64 ((wrap64 (t191 + t197)) - 1))) - (mx t193 t191))) + 1))))) = some r := H
        have A33 := Aside0.mk A330
        clear A330
        replace H := Option.bind_eq_some_iff.mp H
        obtain ⟨t197, A340, H⟩ := H
        replace H : (some (mx 0 (wrap64 ((wrap64 ((mn t195 (wrap64 ((wrap64 (t191 + t197)) - 1))) - (mx t193 t191))) + 1)))) = some r := H
        have A34 := Aside0.mk A340
        clear A340
        obtain ⟨ji35, hji35⟩ : ∃ j_ : Int, (mn t195 (wrap64 ((wrap64 (t191 + t197)) - 1))) = j_ := ⟨_, rfl⟩
        replace H : (some (mx 0 (wrap64 ((wrap64 ((ji35) - (mx t193 t191))) + 1)))) = some r := by first | (rw [hji35] at H; exact H) | (simp only [hji35] at H ⊢; exact H)
        (try rw [hji35] at A31)
        (try rw [hji35] at A32)
        (try rw [hji35] at A33)
        (try rw [hji35] at A34)
        have hji35_ : (if (wrap64 ((wrap64 (t191 + t197)) - 1)) < t195 then (wrap64 ((wrap64 (t191 + t197)) - 1)) else t195) = ji35 := hji35
        obtain ⟨ji36, hji36⟩ : ∃ j_ : Int, (mx t193 t191) = j_ := ⟨_, rfl⟩
        replace H : (some (mx 0 (wrap64 ((wrap64 ((ji35) - (ji36))) + 1)))) = some r := by first | (rw [hji36] at H; exact H) | (simp only [hji36] at H ⊢; exact H)
        (try rw [hji36] at A31)
        (try rw [hji36] at A32)
        (try rw [hji36] at A33)
        (try rw [hji36] at A34)
        have hji36_ : (if t193 < t191 then t191 else t193) = ji36 := hji36
        obtain ⟨ji37, hji37⟩ : ∃ j_ : Int, (mx 0 (wrap64 ((wrap64 ((ji35) - (ji36))) + 1))) = j_ := ⟨_, rfl⟩
        replace H : (some ji37) = some r := by first | (rw [hji37] at H; exact H) | (simp only [hji37] at H ⊢; exact H)
        (try rw [hji37] at A31)
        (try rw [hji37] at A32)
        (try rw [hji37] at A33)
        (try rw [hji37] at A34)
        have hji37_ : (if 0 < (wrap64 ((wrap64 ((ji35) - (ji36))) + 1)) then (wrap64 ((wrap64 ((ji35) - (ji36))) + 1)) else 0) = ji37 := hji37
        obtain rfl := Option.some.inj H
        go_wp2_with (first | ((with_reducible refine gate_callee (f := 13) rfl ?_); refine goesL_ (some 40) rfl rfl Try.func13 (by kernel_rfl) rfl #[.agg #[.int .i64 (wrap64 (Int.tdiv a2 12)), .int .i64 (wrap64 ((Int.tmod a2 12) + 1)), .int .i64 1]] rfl (by (try simp only [List.map_toArray, List.map_cons, List.map_nil]); first | done | rfl | (simp only [List.length_drop, List.length_take]; rfl)) ?_; (with_reducible refine (dates_Number.calls kj3 (wrap64 (Int.tdiv a2 12)) (wrap64 ((Int.tmod a2 12) + 1)) 1 t191 t192 _ A31.out).mono ?_); rintro e w38 ⟨rfl, hb⟩; refine ⟨_, rfl, ?_⟩; have n0_ := Aside0.mk (blk_below (g := gb187) (o := .cells #[.int .i64 a0_0, .int .i64 a0_1, .int .i64 a0_2] 23 (0, 0)) (by (with_reducible repeat (first | refine blk_drewN ?_ _ | refine blk_drew ?_ | refine blk_alloc ?_ _)); exact BK187.out) hb); have n1_ := Aside0.mk (blk_below (g := gb188) (o := .cells #[.int .i64 a1_0, .int .i64 a1_1, .int .i64 a1_2] 23 (0, 0)) (by (with_reducible repeat (first | refine blk_drewN ?_ _ | refine blk_drew ?_ | refine blk_alloc ?_ _)); exact BK188.out) hb); have n2_ := Aside0.mk (below_step (by repeat (first | (with_reducible first | exact HB.out | apply below_alloc | apply pw_below_drewN | apply below_drew1 | refine below_set ?_ GE187.out | refine below_set ?_ GE188.out) | exact HB.out)) hb); clear BK187; clear BK188; clear HB; have BK187 := n0_; have BK188 := n1_; have HB := n2_; clear n0_ n1_ n2_; (try clear hb); (try clear hb2); (try clear hk); (try clear hi); have hnb39 := NB187_188.out; have hnc39 := NB188_187.out; have hcz40_0 : w38.cell? ⟨gb187, 0, none⟩ = some (.int .i64 a0_0) := (blk_cell BK187.out 0).trans rfl; have hcz40_1 : w38.cell? ⟨gb187, 1, none⟩ = some (.int .i64 a0_1) := (blk_cell BK187.out 1).trans rfl; have hcz40_2 : w38.cell? ⟨gb187, 2, none⟩ = some (.int .i64 a0_2) := (blk_cell BK187.out 2).trans rfl; have hfz40_0 := blk_frozen BK187.out 0; have hfz40_1 := blk_frozen BK187.out 1; have hfz40_2 := blk_frozen BK187.out 2) | ((with_reducible refine gate_callee (f := 13) rfl ?_); refine goesL_ (some 45) rfl rfl Try.func13 (by kernel_rfl) rfl #[.agg #[.int .i64 a0_0, .int .i64 a0_1, .int .i64 a0_2]] rfl (by (try simp only [List.map_toArray, List.map_cons, List.map_nil]); first | done | rfl | (simp only [List.length_drop, List.length_take]; rfl)) ?_; (with_reducible refine (dates_Number.calls kj3 a0_0 a0_1 a0_2 t193 t194 _ A32.out).mono ?_); rintro e w41 ⟨rfl, hb⟩; refine ⟨_, rfl, ?_⟩; have n0_ := Aside0.mk (blk_below (g := gb187) (o := .cells #[.int .i64 a0_0, .int .i64 a0_1, .int .i64 a0_2] 23 (0, 0)) (by (with_reducible repeat (first | refine blk_drewN ?_ _ | refine blk_drew ?_ | refine blk_alloc ?_ _)); exact BK187.out) hb); have n1_ := Aside0.mk (blk_below (g := gb188) (o := .cells #[.int .i64 a1_0, .int .i64 a1_1, .int .i64 a1_2] 23 (0, 0)) (by (with_reducible repeat (first | refine blk_drewN ?_ _ | refine blk_drew ?_ | refine blk_alloc ?_ _)); exact BK188.out) hb); have n2_ := Aside0.mk (below_step (by repeat (first | (with_reducible first | exact HB.out | apply below_alloc | apply pw_below_drewN | apply below_drew1 | refine below_set ?_ GE187.out | refine below_set ?_ GE188.out) | exact HB.out)) hb); clear BK187; clear BK188; clear HB; have BK187 := n0_; have BK188 := n1_; have HB := n2_; clear n0_ n1_ n2_; (try clear hb); (try clear hb2); (try clear hk); (try clear hi); have hcz42_0 : w41.cell? ⟨gb188, 0, none⟩ = some (.int .i64 a1_0) := (blk_cell BK188.out 0).trans rfl; have hcz42_1 : w41.cell? ⟨gb188, 1, none⟩ = some (.int .i64 a1_1) := (blk_cell BK188.out 1).trans rfl; have hcz42_2 : w41.cell? ⟨gb188, 2, none⟩ = some (.int .i64 a1_2) := (blk_cell BK188.out 2).trans rfl; have hfz42_0 := blk_frozen BK188.out 0; have hfz42_1 := blk_frozen BK188.out 1; have hfz42_2 := blk_frozen BK188.out 2) | ((with_reducible refine gate_callee (f := 13) rfl ?_); refine goesL_ (some 50) rfl rfl Try.func13 (by kernel_rfl) rfl #[.agg #[.int .i64 a1_0, .int .i64 a1_1, .int .i64 a1_2]] rfl (by (try simp only [List.map_toArray, List.map_cons, List.map_nil]); first | done | rfl | (simp only [List.length_drop, List.length_take]; rfl)) ?_; (with_reducible refine (dates_Number.calls kj3 a1_0 a1_1 a1_2 t195 t196 _ A33.out).mono ?_); rintro e w43 ⟨rfl, hb⟩; refine ⟨_, rfl, ?_⟩; have n0_ := Aside0.mk (blk_below (g := gb187) (o := .cells #[.int .i64 a0_0, .int .i64 a0_1, .int .i64 a0_2] 23 (0, 0)) (by (with_reducible repeat (first | refine blk_drewN ?_ _ | refine blk_drew ?_ | refine blk_alloc ?_ _)); exact BK187.out) hb); have n1_ := Aside0.mk (blk_below (g := gb188) (o := .cells #[.int .i64 a1_0, .int .i64 a1_1, .int .i64 a1_2] 23 (0, 0)) (by (with_reducible repeat (first | refine blk_drewN ?_ _ | refine blk_drew ?_ | refine blk_alloc ?_ _)); exact BK188.out) hb); have n2_ := Aside0.mk (below_step (by repeat (first | (with_reducible first | exact HB.out | apply below_alloc | apply pw_below_drewN | apply below_drew1 | refine below_set ?_ GE187.out | refine below_set ?_ GE188.out) | exact HB.out)) hb); clear BK187; clear BK188; clear HB; have BK187 := n0_; have BK188 := n1_; have HB := n2_; clear n0_ n1_ n2_; (try clear hb); (try clear hb2); (try clear hk); (try clear hi)) | ((with_reducible refine gate_callee (f := 15) rfl ?_); refine goesL_ (some 57) rfl rfl Try.func15 (by kernel_rfl) rfl #[.int .i64 (wrap64 (Int.tdiv a2 12)), .int .i64 (wrap64 ((Int.tmod a2 12) + 1))] rfl (by (try simp only [List.map_toArray, List.map_cons, List.map_nil]); first | done | rfl | (simp only [List.length_drop, List.length_take]; rfl)) ?_; (with_reducible refine (dates_Length.calls kj3 (wrap64 (Int.tdiv a2 12)) (wrap64 ((Int.tmod a2 12) + 1)) t197 _ A34.out).mono ?_); rintro e w' ⟨rfl, ⟨nd, rfl⟩⟩; refine ⟨_, rfl, ?_⟩))
        go_ret
        exact ⟨by first | rfl | (simp [errW_none, errW_some] <;> rfl) | (simp only [← hji35, ← hji36, ← hji37]; first | rfl | (simp [errW_none, errW_some] <;> rfl)) | (simp [*, errW_none, errW_some] <;> rfl), by repeat (first | (with_reducible first | exact HB.out | apply below_alloc | apply pw_below_drewN | apply below_drew1 | refine below_set ?_ GE187.out | refine below_set ?_ GE188.out) | exact HB.out)⟩

/-! ### paymasterlaw06_DatesDays: function 7 -/
mutual
def paymasterlaw06_DatesDays.j0 : Nat → Int → Int → Bool → Int → Int → Int → Int → Int → Int → Option (Bool)
  | 0, _, _, _, _, _, _, _, _, _ => none
  | k + 1, x1, x2, x19, x199000, x199001, x199002, x200000, x200001, x200002 => if x19 = true then ((paymasterref06_Right.f k x200000 x200001 x200002).bind fun t201 => (if t201 = true then ((paymasterlaw06_awake.f k).bind fun t202 => (some t202)) else ((dates_Days.f k x199000 x199001 x199002 x199000 x199001 x199002 x2).bind fun t203 => (if t203 = 0 then ((paymasterlaw06_awake.f k).bind fun t204 => (some t204)) else (none))))) else (paymasterlaw06_DatesDays.l0 k x1 x2 0 0 x199000 x199001 x199002 x200000 x200001 x200002)
def paymasterlaw06_DatesDays.l0 : Nat → Int → Int → Int → Int → Int → Int → Int → Int → Int → Int → Option (Bool)
  | 0, _, _, _, _, _, _, _, _, _, _ => none
  | k + 1, x1, x2, x8, x10, x199000, x199001, x199002, x206000, x206001, x206002 => if x10 ≤ (wrap64 (Int.tmod x1 800)) then (if x10 > 0 then ((paymasterref06_Next.f k x206000 x206001 x206002).bind fun bt208 => (if (wrap64 ((wrap64 ((wrap64 (12 * bt208.1)) + bt208.2.1)) - 1)) = x2 then (paymasterlaw06_DatesDays.l0 k x1 x2 (wrap64 (x8 + 1)) (wrap64 (x10 + 1)) x199000 x199001 x199002 bt208.1 bt208.2.1 bt208.2.2) else (paymasterlaw06_DatesDays.l0 k x1 x2 x8 (wrap64 (x10 + 1)) x199000 x199001 x199002 bt208.1 bt208.2.1 bt208.2.2))) else (if (wrap64 ((wrap64 ((wrap64 (12 * x206000)) + x206001)) - 1)) = x2 then (paymasterlaw06_DatesDays.l0 k x1 x2 (wrap64 (x8 + 1)) (wrap64 (x10 + 1)) x199000 x199001 x199002 x206000 x206001 x206002) else (paymasterlaw06_DatesDays.l0 k x1 x2 x8 (wrap64 (x10 + 1)) x199000 x199001 x199002 x206000 x206001 x206002))) else ((dates_Days.f k x199000 x199001 x199002 x206000 x206001 x206002 x2).bind fun t206 => (if t206 = x8 then ((paymasterlaw06_awake.f k).bind fun t207 => (some t207)) else (none)))
end
def paymasterlaw06_DatesDays.f (k : Nat) (a0_0 : Int) (a0_1 : Int) (a0_2 : Int) (a1 : Int) (a2 : Int) : Option (Bool) := (paymasterref06_Right.f k a0_0 a0_1 a0_2).bind fun t200 => (if t200 = true then (paymasterlaw06_DatesDays.j0 k a1 a2 (decide (a0_0 > 2990)) a0_0 a0_1 a0_2 a0_0 a0_1 a0_2) else (paymasterlaw06_DatesDays.j0 k a1 a2 true a0_0 a0_1 a0_2 a0_0 a0_1 a0_2))
theorem paymasterlaw06_DatesDays.mono_l : ∀ k, (∀ y0 y1 y2 y3 y4 y5 y6 y7 y8, LeO (paymasterlaw06_DatesDays.j0 k y0 y1 y2 y3 y4 y5 y6 y7 y8) (paymasterlaw06_DatesDays.j0 (k + 1) y0 y1 y2 y3 y4 y5 y6 y7 y8)) ∧ (∀ y0 y1 y2 y3 y4 y5 y6 y7 y8 y9, LeO (paymasterlaw06_DatesDays.l0 k y0 y1 y2 y3 y4 y5 y6 y7 y8 y9) (paymasterlaw06_DatesDays.l0 (k + 1) y0 y1 y2 y3 y4 y5 y6 y7 y8 y9))
  | 0 => ⟨fun _ _ _ _ _ _ _ _ _ r h => by simp [paymasterlaw06_DatesDays.j0] at h, fun _ _ _ _ _ _ _ _ _ _ r h => by simp [paymasterlaw06_DatesDays.l0] at h⟩
  | k + 1 => by
    obtain ⟨ih0, ih1⟩ := paymasterlaw06_DatesDays.mono_l k
    refine ⟨?_, ?_⟩
    · intro y0 y1 y2 y3 y4 y5 y6 y7 y8
      unfold paymasterlaw06_DatesDays.j0
      repeat' first
      | (with_reducible exact ih0 _ _ _ _ _ _ _ _ _)
      | (with_reducible exact ih1 _ _ _ _ _ _ _ _ _ _)
      | (with_reducible exact dates_Days.mono _ _ _ _ _ _ _ _)
      | (with_reducible exact paymasterlaw06_awake.mono _)
      | (with_reducible exact paymasterref06_Next.mono _ _ _ _)
      | (with_reducible exact paymasterref06_Right.mono _ _ _ _)
      | (with_reducible exact LeO.refl _)
      | (with_reducible exact LeO.none _)
      | (with_reducible refine LeO.ite ?_ ?_)
      | (with_reducible refine LeO.bind ?_ (fun _ => ?_))
      | exact ih0 _ _ _ _ _ _ _ _ _
      | exact ih1 _ _ _ _ _ _ _ _ _ _
      | exact dates_Days.mono _ _ _ _ _ _ _ _
      | exact paymasterlaw06_awake.mono _
      | exact paymasterref06_Next.mono _ _ _ _
      | exact paymasterref06_Right.mono _ _ _ _
      | exact LeO.none _
      | refine LeO.ite ?_ ?_
      | refine LeO.bind ?_ (fun _ => ?_)
    · intro y0 y1 y2 y3 y4 y5 y6 y7 y8 y9
      unfold paymasterlaw06_DatesDays.l0
      repeat' first
      | (with_reducible exact ih0 _ _ _ _ _ _ _ _ _)
      | (with_reducible exact ih1 _ _ _ _ _ _ _ _ _ _)
      | (with_reducible exact dates_Days.mono _ _ _ _ _ _ _ _)
      | (with_reducible exact paymasterlaw06_awake.mono _)
      | (with_reducible exact paymasterref06_Next.mono _ _ _ _)
      | (with_reducible exact paymasterref06_Right.mono _ _ _ _)
      | (with_reducible exact LeO.refl _)
      | (with_reducible exact LeO.none _)
      | (with_reducible refine LeO.ite ?_ ?_)
      | (with_reducible refine LeO.bind ?_ (fun _ => ?_))
      | exact ih0 _ _ _ _ _ _ _ _ _
      | exact ih1 _ _ _ _ _ _ _ _ _ _
      | exact dates_Days.mono _ _ _ _ _ _ _ _
      | exact paymasterlaw06_awake.mono _
      | exact paymasterref06_Next.mono _ _ _ _
      | exact paymasterref06_Right.mono _ _ _ _
      | exact LeO.none _
      | refine LeO.ite ?_ ?_
      | refine LeO.bind ?_ (fun _ => ?_)
theorem paymasterlaw06_DatesDays.mono : ∀ a0 a1 a2 a3 a4 k, LeO (paymasterlaw06_DatesDays.f k a0 a1 a2 a3 a4) (paymasterlaw06_DatesDays.f (k + 1) a0 a1 a2 a3 a4) := by
  intro a0 a1 a2 a3 a4 k
  obtain ⟨ih0, ih1⟩ := paymasterlaw06_DatesDays.mono_l k
  unfold paymasterlaw06_DatesDays.f
  repeat' first
      | (with_reducible exact ih0 _ _ _ _ _ _ _ _ _)
      | (with_reducible exact ih1 _ _ _ _ _ _ _ _ _ _)
      | (with_reducible exact dates_Days.mono _ _ _ _ _ _ _ _)
      | (with_reducible exact paymasterlaw06_awake.mono _)
      | (with_reducible exact paymasterref06_Next.mono _ _ _ _)
      | (with_reducible exact paymasterref06_Right.mono _ _ _ _)
      | (with_reducible exact LeO.refl _)
      | (with_reducible exact LeO.none _)
      | (with_reducible refine LeO.ite ?_ ?_)
      | (with_reducible refine LeO.bind ?_ (fun _ => ?_))
      | exact ih0 _ _ _ _ _ _ _ _ _
      | exact ih1 _ _ _ _ _ _ _ _ _ _
      | exact dates_Days.mono _ _ _ _ _ _ _ _
      | exact paymasterlaw06_awake.mono _
      | exact paymasterref06_Next.mono _ _ _ _
      | exact paymasterref06_Right.mono _ _ _ _
      | exact LeO.none _
      | refine LeO.ite ?_ ?_
      | refine LeO.bind ?_ (fun _ => ?_)
set_option maxHeartbeats 8000000 in
set_option maxRecDepth 100000 in
theorem paymasterlaw06_DatesDays.calls (k : Nat) (a0_0 : Int) (a0_1 : Int) (a0_2 : Int) (a1 : Int) (a2 : Int) (r : Bool) (w : World) (h : paymasterlaw06_DatesDays.f k a0_0 a0_1 a0_2 a1 a2 = some r) :
    Calls Try.prog 7 #[.agg #[.int .i64 a0_0, .int .i64 a0_1, .int .i64 a0_2], .int .u16 a1, .int .i64 a2] w fun e w' => e = .returned (.bool r) ∧ Below w.heap.size w w' := by
  have hu23 := Try.underlying23
  have hu27 := Try.underlying27
  have HB := Aside0.mk (Below.refl w.heap.size w)
  have H : ((paymasterref06_Right.f k a0_0 a0_1 a0_2).bind fun t200 => (if t200 = true then (paymasterlaw06_DatesDays.j0 k a1 a2 (decide (a0_0 > 2990)) a0_0 a0_1 a0_2 a0_0 a0_1 a0_2) else (paymasterlaw06_DatesDays.j0 k a1 a2 true a0_0 a0_1 a0_2 a0_0 a0_1 a0_2))) = some r := h
  clear h
  have HC4 := Aside0.mk H
  clear H
  go_enter Try.func7, Try.ntmps7
  go_upto_region 2 with (first | ((with_reducible refine gate_dst (N := 3) rfl ?_); refine box_event ?hg (N := 3) ?hd (cs := #[.int .i64 a0_0, .int .i64 a0_1, .int .i64 a0_2]) (t := 23) ?hr ?_; (case hd => rfl); (case hg => rfl); (case hr => first | (go_simp; done) | (go_simp; rfl)); intro gb198 hg w5 hbox hb; have n0_ := Aside0.mk (below_step (by repeat (first | (with_reducible first | exact HB.out | apply below_alloc | apply pw_below_drewN | apply below_drew1) | exact HB.out)) hb); have n1_ := Aside0.mk (hbox); have n2_ := Aside0.mk ((by rw [hg]; exact (below_size (by repeat (first | (with_reducible first | exact HB.out | apply below_alloc | apply pw_below_drewN | apply below_drew1) | exact HB.out))) : w.heap.size ≤ gb198)); have n3_ := Aside0.mk ((by rw [hg]; exact (below_size (by repeat (first | (with_reducible first | exact HB.out | apply below_alloc | apply pw_below_drewN | apply below_drew1) | exact HB.out))) : w.heap.size ≤ gb198)); clear HB; have HB := n0_; have BK198 := n1_; have GW198 := n2_; have GE198 := n3_; clear n0_ n1_ n2_ n3_; clear hb hbox hg; have hcz6_0 : w5.cell? ⟨gb198, 0, none⟩ = some (.int .i64 a0_0) := (blk_cell BK198.out 0).trans rfl; have hcz6_1 : w5.cell? ⟨gb198, 1, none⟩ = some (.int .i64 a0_1) := (blk_cell BK198.out 1).trans rfl; have hcz6_2 : w5.cell? ⟨gb198, 2, none⟩ = some (.int .i64 a0_2) := (blk_cell BK198.out 2).trans rfl; have hfz6_0 := blk_frozen BK198.out 0; have hfz6_1 := blk_frozen BK198.out 1; have hfz6_2 := blk_frozen BK198.out 2) | ((with_reducible refine gate_dst (N := 7) rfl ?_); refine box_event ?hg (N := 7) ?hd (cs := #[.int .i64 0, .int .i64 0, .int .i64 0]) (t := 27) ?hr ?_; (case hd => rfl); (case hg => rfl); (case hr => first | (go_simp; done) | (go_simp; rfl)); intro gb199 hg w7 hbox hb; have n0_ := Aside0.mk (blk_below (g := gb198) (o := .cells #[.int .i64 a0_0, .int .i64 a0_1, .int .i64 a0_2] 23 (0, 0)) (by (with_reducible repeat (first | refine blk_drewN ?_ _ | refine blk_drew ?_ | refine blk_alloc ?_ _)); exact BK198.out) hb); have n1_ := Aside0.mk (below_step (by repeat (first | (with_reducible first | exact HB.out | apply below_alloc | apply pw_below_drewN | apply below_drew1 | refine below_set ?_ GE198.out) | exact HB.out)) hb); have n2_ := Aside0.mk (hbox); have n3_ := Aside0.mk ((by rw [hg]; exact (below_size (by repeat (first | (with_reducible first | exact HB.out | apply below_alloc | apply pw_below_drewN | apply below_drew1 | refine below_set ?_ GE198.out) | exact HB.out))) : w.heap.size ≤ gb199)); have n4_ := Aside0.mk ((by rw [hg]; exact (below_size (by repeat (first | (with_reducible first | exact HB.out | apply below_alloc | apply pw_below_drewN | apply below_drew1 | refine below_set ?_ GE198.out) | exact HB.out))) : w.heap.size ≤ gb199)); have n5_ := Aside0.mk ((by rw [hg]; exact Nat.ne_of_lt (blk_lt (g := gb198) (o := .cells #[.int .i64 a0_0, .int .i64 a0_1, .int .i64 a0_2] 23 (0, 0)) (by (with_reducible repeat (first | refine blk_drewN ?_ _ | refine blk_drew ?_ | refine blk_alloc ?_ _)); exact BK198.out)) : gb198 ≠ gb199)); have n6_ := Aside0.mk ((by rw [hg]; exact Nat.ne_of_gt (blk_lt (g := gb198) (o := .cells #[.int .i64 a0_0, .int .i64 a0_1, .int .i64 a0_2] 23 (0, 0)) (by (with_reducible repeat (first | refine blk_drewN ?_ _ | refine blk_drew ?_ | refine blk_alloc ?_ _)); exact BK198.out)) : gb199 ≠ gb198)); clear BK198; clear HB; have BK198 := n0_; have HB := n1_; have BK199 := n2_; have GW199 := n3_; have GE199 := n4_; have NB198_199 := n5_; have NB199_198 := n6_; clear n0_ n1_ n2_ n3_ n4_ n5_ n6_; clear hb hbox hg; have hnb8 := NB199_198.out; have hnc8 := NB198_199.out; have hcz9_0 : w7.cell? ⟨gb199, 0, none⟩ = some (.int .i64 0) := (blk_cell BK199.out 0).trans rfl; have hcz9_1 : w7.cell? ⟨gb199, 1, none⟩ = some (.int .i64 0) := (blk_cell BK199.out 1).trans rfl; have hcz9_2 : w7.cell? ⟨gb199, 2, none⟩ = some (.int .i64 0) := (blk_cell BK199.out 2).trans rfl; have hfz9_0 := blk_frozen BK199.out 0; have hfz9_1 := blk_frozen BK199.out 1; have hfz9_2 := blk_frozen BK199.out 2))
  (try simp only [Act.put, List.setIfInBounds_toArray, List.set_cons_zero, List.set_cons_succ])
  go_cut [19] (fun v19 wc => ∃ (kq : Nat) (x19_3 : Bool), v19 = .bool x19_3 ∧ Aside0 (paymasterlaw06_DatesDays.j0 kq a1 a2 x19_3 a0_0 a0_1 a0_2 a0_0 a0_1 a0_2 = some r) ∧ Aside0 (kq ≤ k) ∧ Aside0 (wc.heap[gb198]? = some (.cells #[.int .i64 a0_0, .int .i64 a0_1, .int .i64 a0_2] 23 (0, 0))) ∧ Aside0 (wc.heap[gb199]? = some (.cells #[.int .i64 a0_0, .int .i64 a0_1, .int .i64 a0_2] 27 (0, 0))) ∧ Aside0 (Below w.heap.size w wc))
  case first =>
    have H := HC4.out
    clear HC4
    replace H := Option.bind_eq_some_iff.mp H
    obtain ⟨t200, A100, H⟩ := H
    replace H : (if t200 = true then (paymasterlaw06_DatesDays.j0 k a1 a2 (decide (a0_0 > 2990)) a0_0 a0_1 a0_2 a0_0 a0_1 a0_2) else (paymasterlaw06_DatesDays.j0 k a1 a2 true a0_0 a0_1 a0_2 a0_0 a0_1 a0_2)) = some r := H
    have A10 := Aside0.mk A100
    clear A100
    by_cases c11 : t200 = true
    · subst c11
      have H1 : (paymasterlaw06_DatesDays.j0 k a1 a2 (decide (a0_0 > 2990)) a0_0 a0_1 a0_2 a0_0 a0_1 a0_2) = some r := by rw [if_pos rfl] at H; exact H
      clear H
      have H := H1
      clear H1
      have H' := Aside0.mk H
      clear H
      have hnb12 := NB199_198.out
      have hnc12 := NB198_199.out
      have hcz13_0 : w7.cell? ⟨gb199, 0, none⟩ = some (.int .i64 0) := (blk_cell BK199.out 0).trans rfl
      have hcz13_1 : w7.cell? ⟨gb199, 1, none⟩ = some (.int .i64 0) := (blk_cell BK199.out 1).trans rfl
      have hcz13_2 : w7.cell? ⟨gb199, 2, none⟩ = some (.int .i64 0) := (blk_cell BK199.out 2).trans rfl
      have hfz13_0 := blk_frozen BK199.out 0
      have hfz13_1 := blk_frozen BK199.out 1
      have hfz13_2 := blk_frozen BK199.out 2
      go_wp2_with (first | ((with_reducible refine gate_callee (f := 17) rfl ?_); refine goesL_ (some 13) rfl rfl Try.func17 (by kernel_rfl) rfl #[.agg #[.int .i64 a0_0, .int .i64 a0_1, .int .i64 a0_2]] rfl (by (try simp only [List.map_toArray, List.map_cons, List.map_nil]); first | done | rfl | (simp only [List.length_drop, List.length_take]; rfl)) ?_; (with_reducible refine (paymasterref06_Right.calls k a0_0 a0_1 a0_2 true _ A10.out).mono ?_); rintro e w14 ⟨rfl, hb⟩; refine ⟨_, rfl, ?_⟩; have n0_ := Aside0.mk (blk_below (g := gb198) (o := .cells #[.int .i64 a0_0, .int .i64 a0_1, .int .i64 a0_2] 23 (0, 0)) (by (with_reducible repeat (first | refine blk_drewN ?_ _ | refine blk_drew ?_ | refine blk_alloc ?_ _)); refine blk_far ?_ NB198_199.out _; (with_reducible repeat (first | refine blk_drewN ?_ _ | refine blk_drew ?_ | refine blk_alloc ?_ _)); refine blk_far ?_ NB198_199.out _; (with_reducible repeat (first | refine blk_drewN ?_ _ | refine blk_drew ?_ | refine blk_alloc ?_ _)); refine blk_far ?_ NB198_199.out _; (with_reducible repeat (first | refine blk_drewN ?_ _ | refine blk_drew ?_ | refine blk_alloc ?_ _)); exact BK198.out) hb); have n1_ := Aside0.mk (blk_below (g := gb199) (o := .cells #[.int .i64 a0_0, .int .i64 a0_1, .int .i64 a0_2] 27 (0, 0)) (by (with_reducible repeat (first | refine blk_drewN ?_ _ | refine blk_drew ?_ | refine blk_alloc ?_ _)); refine blk_put (cs := #[.int .i64 a0_0, .int .i64 a0_1, .int .i64 0]) ?_ 2 _ rfl; (with_reducible repeat (first | refine blk_drewN ?_ _ | refine blk_drew ?_ | refine blk_alloc ?_ _)); refine blk_put (cs := #[.int .i64 a0_0, .int .i64 0, .int .i64 0]) ?_ 1 _ rfl; (with_reducible repeat (first | refine blk_drewN ?_ _ | refine blk_drew ?_ | refine blk_alloc ?_ _)); refine blk_put (cs := #[.int .i64 0, .int .i64 0, .int .i64 0]) ?_ 0 _ rfl; (with_reducible repeat (first | refine blk_drewN ?_ _ | refine blk_drew ?_ | refine blk_alloc ?_ _)); exact BK199.out) hb); have n2_ := Aside0.mk (below_step (by repeat (first | (with_reducible first | exact HB.out | apply below_alloc | apply pw_below_drewN | apply below_drew1 | refine below_set ?_ GE198.out | refine below_set ?_ GE199.out) | exact HB.out)) hb); clear BK198; clear BK199; clear HB; have BK198 := n0_; have BK199 := n1_; have HB := n2_; clear n0_ n1_ n2_; (try clear hb); (try clear hb2); (try clear hk); (try clear hi); have hcz15_0 : w14.cell? ⟨gb198, 0, none⟩ = some (.int .i64 a0_0) := (blk_cell BK198.out 0).trans rfl; have hcz15_1 : w14.cell? ⟨gb198, 1, none⟩ = some (.int .i64 a0_1) := (blk_cell BK198.out 1).trans rfl; have hcz15_2 : w14.cell? ⟨gb198, 2, none⟩ = some (.int .i64 a0_2) := (blk_cell BK198.out 2).trans rfl; have hfz15_0 := blk_frozen BK198.out 0; have hfz15_1 := blk_frozen BK198.out 1; have hfz15_2 := blk_frozen BK198.out 2))
      go_meet
      case rel => exact ⟨_, (decide (a0_0 > 2990)), (by first | rfl | (simp; done) | (simp [*]; done)), H', ⟨by first | omega | exact Nat.le_refl _⟩, ⟨by (with_reducible repeat (first | refine blk_drewN ?_ _ | refine blk_drew ?_ | refine blk_alloc ?_ _)); exact BK198.out⟩, ⟨by (with_reducible repeat (first | refine blk_drewN ?_ _ | refine blk_drew ?_ | refine blk_alloc ?_ _)); exact BK199.out⟩, ⟨by repeat (first | (with_reducible first | exact HB.out | apply below_alloc | apply pw_below_drewN | apply below_drew1 | refine below_set ?_ GE198.out | refine below_set ?_ GE199.out) | exact HB.out)⟩⟩
    · replace c11 := Bool.eq_false_iff.mpr c11
      subst c11
      have H1 : (paymasterlaw06_DatesDays.j0 k a1 a2 true a0_0 a0_1 a0_2 a0_0 a0_1 a0_2) = some r := by rw [if_neg (show ¬ (false = true) by decide)] at H; exact H
      clear H
      have H := H1
      clear H1
      have H' := Aside0.mk H
      clear H
      have hnb16 := NB199_198.out
      have hnc16 := NB198_199.out
      have hcz17_0 : w7.cell? ⟨gb199, 0, none⟩ = some (.int .i64 0) := (blk_cell BK199.out 0).trans rfl
      have hcz17_1 : w7.cell? ⟨gb199, 1, none⟩ = some (.int .i64 0) := (blk_cell BK199.out 1).trans rfl
      have hcz17_2 : w7.cell? ⟨gb199, 2, none⟩ = some (.int .i64 0) := (blk_cell BK199.out 2).trans rfl
      have hfz17_0 := blk_frozen BK199.out 0
      have hfz17_1 := blk_frozen BK199.out 1
      have hfz17_2 := blk_frozen BK199.out 2
      go_wp2_with (first | ((with_reducible refine gate_callee (f := 17) rfl ?_); refine goesL_ (some 13) rfl rfl Try.func17 (by kernel_rfl) rfl #[.agg #[.int .i64 a0_0, .int .i64 a0_1, .int .i64 a0_2]] rfl (by (try simp only [List.map_toArray, List.map_cons, List.map_nil]); first | done | rfl | (simp only [List.length_drop, List.length_take]; rfl)) ?_; (with_reducible refine (paymasterref06_Right.calls k a0_0 a0_1 a0_2 false _ A10.out).mono ?_); rintro e w18 ⟨rfl, hb⟩; refine ⟨_, rfl, ?_⟩; have n0_ := Aside0.mk (blk_below (g := gb198) (o := .cells #[.int .i64 a0_0, .int .i64 a0_1, .int .i64 a0_2] 23 (0, 0)) (by (with_reducible repeat (first | refine blk_drewN ?_ _ | refine blk_drew ?_ | refine blk_alloc ?_ _)); refine blk_far ?_ NB198_199.out _; (with_reducible repeat (first | refine blk_drewN ?_ _ | refine blk_drew ?_ | refine blk_alloc ?_ _)); refine blk_far ?_ NB198_199.out _; (with_reducible repeat (first | refine blk_drewN ?_ _ | refine blk_drew ?_ | refine blk_alloc ?_ _)); refine blk_far ?_ NB198_199.out _; (with_reducible repeat (first | refine blk_drewN ?_ _ | refine blk_drew ?_ | refine blk_alloc ?_ _)); exact BK198.out) hb); have n1_ := Aside0.mk (blk_below (g := gb199) (o := .cells #[.int .i64 a0_0, .int .i64 a0_1, .int .i64 a0_2] 27 (0, 0)) (by (with_reducible repeat (first | refine blk_drewN ?_ _ | refine blk_drew ?_ | refine blk_alloc ?_ _)); refine blk_put (cs := #[.int .i64 a0_0, .int .i64 a0_1, .int .i64 0]) ?_ 2 _ rfl; (with_reducible repeat (first | refine blk_drewN ?_ _ | refine blk_drew ?_ | refine blk_alloc ?_ _)); refine blk_put (cs := #[.int .i64 a0_0, .int .i64 0, .int .i64 0]) ?_ 1 _ rfl; (with_reducible repeat (first | refine blk_drewN ?_ _ | refine blk_drew ?_ | refine blk_alloc ?_ _)); refine blk_put (cs := #[.int .i64 0, .int .i64 0, .int .i64 0]) ?_ 0 _ rfl; (with_reducible repeat (first | refine blk_drewN ?_ _ | refine blk_drew ?_ | refine blk_alloc ?_ _)); exact BK199.out) hb); have n2_ := Aside0.mk (below_step (by repeat (first | (with_reducible first | exact HB.out | apply below_alloc | apply pw_below_drewN | apply below_drew1 | refine below_set ?_ GE198.out | refine below_set ?_ GE199.out) | exact HB.out)) hb); clear BK198; clear BK199; clear HB; have BK198 := n0_; have BK199 := n1_; have HB := n2_; clear n0_ n1_ n2_; (try clear hb); (try clear hb2); (try clear hk); (try clear hi)))
      go_meet
      case rel => exact ⟨_, (true), (by first | rfl | (simp; done) | (simp [*]; done)), H', ⟨by first | omega | exact Nat.le_refl _⟩, ⟨by (with_reducible repeat (first | refine blk_drewN ?_ _ | refine blk_drew ?_ | refine blk_alloc ?_ _)); exact BK198.out⟩, ⟨by (with_reducible repeat (first | refine blk_drewN ?_ _ | refine blk_drew ?_ | refine blk_alloc ?_ _)); exact BK199.out⟩, ⟨by repeat (first | (with_reducible first | exact HB.out | apply below_alloc | apply pw_below_drewN | apply below_drew1 | refine below_set ?_ GE198.out | refine below_set ?_ GE199.out) | exact HB.out)⟩⟩
  case rest =>
    clear HC4
    try clear c1
    try clear p2
    try clear c7
    try clear c8
    try clear c11
    try clear c12
    try clear c16
    try clear c17
    try clear hcz13_0
    try clear hcz13_1
    try clear hcz13_2
    try clear hcz15_0
    try clear hcz15_1
    try clear hcz15_2
    try clear hcz17_0
    try clear hcz17_1
    try clear hcz17_2
    try clear hcz6_0
    try clear hcz6_1
    try clear hcz6_2
    try clear hcz9_0
    try clear hcz9_1
    try clear hcz9_2
    try clear hfz13_0
    try clear hfz13_1
    try clear hfz13_2
    try clear hfz15_0
    try clear hfz15_1
    try clear hfz15_2
    try clear hfz17_0
    try clear hfz17_1
    try clear hfz17_2
    try clear hfz6_0
    try clear hfz6_1
    try clear hfz6_2
    try clear hfz9_0
    try clear hfz9_1
    try clear hfz9_2
    obtain ⟨kq, x19_3, rfl, HA, HJ3, BK198, BK199, HB⟩ := hcut
    cases kq with
    | zero => exact absurd HA.out (by simp [paymasterlaw06_DatesDays.j0])
    | succ kj3 =>
      have H := HA.out
      clear HA
      simp only [paymasterlaw06_DatesDays.j0] at H
      by_cases c19 : x19_3 = true
      · subst c19
        have H1 : ((paymasterref06_Right.f kj3 a0_0 a0_1 a0_2).bind fun t201 => (if t201 = true then ((paymasterlaw06_awake.f kj3).bind fun t202 => (some t202)) else ((dates_Days.f kj3 a0_0 a0_1 a0_2 a0_0 a0_1 a0_2 a2).bind fun t203 => (if t203 = 0 then ((paymasterlaw06_awake.f kj3).bind fun t204 => (some t204)) else (none))))) = some r := by rw [if_pos rfl] at H; exact H
        clear H
        have H := H1
        clear H1
        replace H := Option.bind_eq_some_iff.mp H
        obtain ⟨t201, A200, H⟩ := H
        replace H : (if t201 = true then ((paymasterlaw06_awake.f kj3).bind fun t202 => (some t202)) else ((dates_Days.f kj3 a0_0 a0_1 a0_2 a0_0 a0_1 a0_2 a2).bind fun t203 => (if t203 = 0 then ((paymasterlaw06_awake.f kj3).bind fun t204 => (some t204)) else (none)))) = some r := H
        have A20 := Aside0.mk A200
        clear A200
        by_cases c21 : t201 = true
        · subst c21
          have H1 : ((paymasterlaw06_awake.f kj3).bind fun t202 => (some t202)) = some r := by rw [if_pos rfl] at H; exact H
          clear H
          have H := H1
          clear H1
          replace H := Option.bind_eq_some_iff.mp H
          obtain ⟨t202, A220, H⟩ := H
          replace H : (some t202) = some r := H
          have A22 := Aside0.mk A220
          clear A220
          obtain rfl := Option.some.inj H
          have hnb23 := NB199_198.out
          have hnc23 := NB198_199.out
          have hcz24_0 : wc.cell? ⟨gb199, 0, none⟩ = some (.int .i64 a0_0) := (blk_cell BK199.out 0).trans rfl
          have hcz24_1 : wc.cell? ⟨gb199, 1, none⟩ = some (.int .i64 a0_1) := (blk_cell BK199.out 1).trans rfl
          have hcz24_2 : wc.cell? ⟨gb199, 2, none⟩ = some (.int .i64 a0_2) := (blk_cell BK199.out 2).trans rfl
          have hfz24_0 := blk_frozen BK199.out 0
          have hfz24_1 := blk_frozen BK199.out 1
          have hfz24_2 := blk_frozen BK199.out 2
          go_wp2_with (first | ((with_reducible refine gate_callee (f := 17) rfl ?_); refine goesL_ (some 21) rfl rfl Try.func17 (by kernel_rfl) rfl #[.agg #[.int .i64 a0_0, .int .i64 a0_1, .int .i64 a0_2]] rfl (by (try simp only [List.map_toArray, List.map_cons, List.map_nil]); first | done | rfl | (simp only [List.length_drop, List.length_take]; rfl)) ?_; (with_reducible refine (paymasterref06_Right.calls kj3 a0_0 a0_1 a0_2 true _ A20.out).mono ?_); rintro e w25 ⟨rfl, hb⟩; refine ⟨_, rfl, ?_⟩; have n0_ := Aside0.mk (blk_below (g := gb198) (o := .cells #[.int .i64 a0_0, .int .i64 a0_1, .int .i64 a0_2] 23 (0, 0)) (by (with_reducible repeat (first | refine blk_drewN ?_ _ | refine blk_drew ?_ | refine blk_alloc ?_ _)); exact BK198.out) hb); have n1_ := Aside0.mk (blk_below (g := gb199) (o := .cells #[.int .i64 a0_0, .int .i64 a0_1, .int .i64 a0_2] 27 (0, 0)) (by (with_reducible repeat (first | refine blk_drewN ?_ _ | refine blk_drew ?_ | refine blk_alloc ?_ _)); exact BK199.out) hb); have n2_ := Aside0.mk (below_step (by repeat (first | (with_reducible first | exact HB.out | apply below_alloc | apply pw_below_drewN | apply below_drew1 | refine below_set ?_ GE198.out | refine below_set ?_ GE199.out) | exact HB.out)) hb); clear BK198; clear BK199; clear HB; have BK198 := n0_; have BK199 := n1_; have HB := n2_; clear n0_ n1_ n2_; (try clear hb); (try clear hb2); (try clear hk); (try clear hi)) | (go_at_call 12; (with_reducible refine (paymasterlaw06_awake.calls kj3  t202 _ A22.out).mono ?_); rintro e w26 ⟨rfl, hb⟩; have n0_ := Aside0.mk (blk_below (g := gb198) (o := .cells #[.int .i64 a0_0, .int .i64 a0_1, .int .i64 a0_2] 23 (0, 0)) (by (with_reducible repeat (first | refine blk_drewN ?_ _ | refine blk_drew ?_ | refine blk_alloc ?_ _)); exact BK198.out) hb); have n1_ := Aside0.mk (blk_below (g := gb199) (o := .cells #[.int .i64 a0_0, .int .i64 a0_1, .int .i64 a0_2] 27 (0, 0)) (by (with_reducible repeat (first | refine blk_drewN ?_ _ | refine blk_drew ?_ | refine blk_alloc ?_ _)); exact BK199.out) hb); have n2_ := Aside0.mk (below_step (by repeat (first | (with_reducible first | exact HB.out | apply below_alloc | apply pw_below_drewN | apply below_drew1 | refine below_set ?_ GE198.out | refine below_set ?_ GE199.out) | exact HB.out)) hb); clear BK198; clear BK199; clear HB; have BK198 := n0_; have BK199 := n1_; have HB := n2_; clear n0_ n1_ n2_; (try clear hb); (try clear hb2); (try clear hk); (try clear hi)))
          go_ret
          exact ⟨by first | rfl | (simp [errW_none, errW_some] <;> rfl) | (simp [*, errW_none, errW_some] <;> rfl), by repeat (first | (with_reducible first | exact HB.out | apply below_alloc | apply pw_below_drewN | apply below_drew1 | refine below_set ?_ GE198.out | refine below_set ?_ GE199.out) | exact HB.out)⟩
        · replace c21 := Bool.eq_false_iff.mpr c21
          subst c21
          have H1 : ((dates_Days.f kj3 a0_0 a0_1 a0_2 a0_0 a0_1 a0_2 a2).bind fun t203 => (if t203 = 0 then ((paymasterlaw06_awake.f kj3).bind fun t204 => (some t204)) else (none))) = some r := by rw [if_neg (show ¬ (false = true) by decide)] at H; exact H
          clear H
          have H := H1
          clear H1
          replace H := Option.bind_eq_some_iff.mp H
          obtain ⟨t203, A270, H⟩ := H
          replace H : (if t203 = 0 then ((paymasterlaw06_awake.f kj3).bind fun t204 => (some t204)) else (none)) = some r := H
          have A27 := Aside0.mk A270
          clear A270
          by_cases c28 : t203 = 0
          · rw [if_pos c28] at H
            have c28b0 : (t203 == 0) = true := beq_iff_eq.mpr c28
            have c28b1 : (t203 != 0) = false := bne_eq_false_iff_eq.mpr c28
            clear c28
            replace H := Option.bind_eq_some_iff.mp H
            obtain ⟨t204, A290, H⟩ := H
            replace H : (some t204) = some r := H
            have A29 := Aside0.mk A290
            clear A290
            obtain rfl := Option.some.inj H
            have hnb30 := NB199_198.out
            have hnc30 := NB198_199.out
            have hcz31_0 : wc.cell? ⟨gb199, 0, none⟩ = some (.int .i64 a0_0) := (blk_cell BK199.out 0).trans rfl
            have hcz31_1 : wc.cell? ⟨gb199, 1, none⟩ = some (.int .i64 a0_1) := (blk_cell BK199.out 1).trans rfl
            have hcz31_2 : wc.cell? ⟨gb199, 2, none⟩ = some (.int .i64 a0_2) := (blk_cell BK199.out 2).trans rfl
            have hfz31_0 := blk_frozen BK199.out 0
            have hfz31_1 := blk_frozen BK199.out 1
            have hfz31_2 := blk_frozen BK199.out 2
            go_wp2_with (first | ((with_reducible refine gate_callee (f := 17) rfl ?_); refine goesL_ (some 21) rfl rfl Try.func17 (by kernel_rfl) rfl #[.agg #[.int .i64 a0_0, .int .i64 a0_1, .int .i64 a0_2]] rfl (by (try simp only [List.map_toArray, List.map_cons, List.map_nil]); first | done | rfl | (simp only [List.length_drop, List.length_take]; rfl)) ?_; (with_reducible refine (paymasterref06_Right.calls kj3 a0_0 a0_1 a0_2 false _ A20.out).mono ?_); rintro e w32 ⟨rfl, hb⟩; refine ⟨_, rfl, ?_⟩; have n0_ := Aside0.mk (blk_below (g := gb198) (o := .cells #[.int .i64 a0_0, .int .i64 a0_1, .int .i64 a0_2] 23 (0, 0)) (by (with_reducible repeat (first | refine blk_drewN ?_ _ | refine blk_drew ?_ | refine blk_alloc ?_ _)); exact BK198.out) hb); have n1_ := Aside0.mk (blk_below (g := gb199) (o := .cells #[.int .i64 a0_0, .int .i64 a0_1, .int .i64 a0_2] 27 (0, 0)) (by (with_reducible repeat (first | refine blk_drewN ?_ _ | refine blk_drew ?_ | refine blk_alloc ?_ _)); exact BK199.out) hb); have n2_ := Aside0.mk (below_step (by repeat (first | (with_reducible first | exact HB.out | apply below_alloc | apply pw_below_drewN | apply below_drew1 | refine below_set ?_ GE198.out | refine below_set ?_ GE199.out) | exact HB.out)) hb); clear BK198; clear BK199; clear HB; have BK198 := n0_; have BK199 := n1_; have HB := n2_; clear n0_ n1_ n2_; (try clear hb); (try clear hb2); (try clear hk); (try clear hi); have hcz33_0 : w32.cell? ⟨gb198, 0, none⟩ = some (.int .i64 a0_0) := (blk_cell BK198.out 0).trans rfl; have hcz33_1 : w32.cell? ⟨gb198, 1, none⟩ = some (.int .i64 a0_1) := (blk_cell BK198.out 1).trans rfl; have hcz33_2 : w32.cell? ⟨gb198, 2, none⟩ = some (.int .i64 a0_2) := (blk_cell BK198.out 2).trans rfl; have hfz33_0 := blk_frozen BK198.out 0; have hfz33_1 := blk_frozen BK198.out 1; have hfz33_2 := blk_frozen BK198.out 2) | (go_at_call 20; (with_reducible refine (dates_Days.calls kj3 a0_0 a0_1 a0_2 a0_0 a0_1 a0_2 a2 t203 _ A27.out).mono ?_); rintro e w34 ⟨rfl, hb⟩; have n0_ := Aside0.mk (blk_below (g := gb198) (o := .cells #[.int .i64 a0_0, .int .i64 a0_1, .int .i64 a0_2] 23 (0, 0)) (by (with_reducible repeat (first | refine blk_drewN ?_ _ | refine blk_drew ?_ | refine blk_alloc ?_ _)); exact BK198.out) hb); have n1_ := Aside0.mk (blk_below (g := gb199) (o := .cells #[.int .i64 a0_0, .int .i64 a0_1, .int .i64 a0_2] 27 (0, 0)) (by (with_reducible repeat (first | refine blk_drewN ?_ _ | refine blk_drew ?_ | refine blk_alloc ?_ _)); exact BK199.out) hb); have n2_ := Aside0.mk (below_step (by repeat (first | (with_reducible first | exact HB.out | apply below_alloc | apply pw_below_drewN | apply below_drew1 | refine below_set ?_ GE198.out | refine below_set ?_ GE199.out) | exact HB.out)) hb); clear BK198; clear BK199; clear HB; have BK198 := n0_; have BK199 := n1_; have HB := n2_; clear n0_ n1_ n2_; (try clear hb); (try clear hb2); (try clear hk); (try clear hi)) | (go_at_call 12; (with_reducible refine (paymasterlaw06_awake.calls kj3  t204 _ A29.out).mono ?_); rintro e w35 ⟨rfl, hb⟩; have n0_ := Aside0.mk (blk_below (g := gb198) (o := .cells #[.int .i64 a0_0, .int .i64 a0_1, .int .i64 a0_2] 23 (0, 0)) (by (with_reducible repeat (first | refine blk_drewN ?_ _ | refine blk_drew ?_ | refine blk_alloc ?_ _)); exact BK198.out) hb); have n1_ := Aside0.mk (blk_below (g := gb199) (o := .cells #[.int .i64 a0_0, .int .i64 a0_1, .int .i64 a0_2] 27 (0, 0)) (by (with_reducible repeat (first | refine blk_drewN ?_ _ | refine blk_drew ?_ | refine blk_alloc ?_ _)); exact BK199.out) hb); have n2_ := Aside0.mk (below_step (by repeat (first | (with_reducible first | exact HB.out | apply below_alloc | apply pw_below_drewN | apply below_drew1 | refine below_set ?_ GE198.out | refine below_set ?_ GE199.out) | exact HB.out)) hb); clear BK198; clear BK199; clear HB; have BK198 := n0_; have BK199 := n1_; have HB := n2_; clear n0_ n1_ n2_; (try clear hb); (try clear hb2); (try clear hk); (try clear hi)))
            go_ret
            exact ⟨by first | rfl | (simp [errW_none, errW_some] <;> rfl) | (simp [*, errW_none, errW_some] <;> rfl), by repeat (first | (with_reducible first | exact HB.out | apply below_alloc | apply pw_below_drewN | apply below_drew1 | refine below_set ?_ GE198.out | refine below_set ?_ GE199.out) | exact HB.out)⟩
          · rw [if_neg c28] at H
            exact absurd H (by simp)
      · replace c19 := Bool.eq_false_iff.mpr c19
        subst c19
        have H1 : (paymasterlaw06_DatesDays.l0 kj3 a1 a2 0 0 a0_0 a0_1 a0_2 a0_0 a0_1 a0_2) = some r := by rw [if_neg (show ¬ (false = true) by decide)] at H; exact H
        clear H
        have H := H1
        clear H1
        have H' := Aside0.mk H
        clear H
        have hnb36 := NB199_198.out
        have hnc36 := NB198_199.out
        have hcz37_0 : wc.cell? ⟨gb199, 0, none⟩ = some (.int .i64 a0_0) := (blk_cell BK199.out 0).trans rfl
        have hcz37_1 : wc.cell? ⟨gb199, 1, none⟩ = some (.int .i64 a0_1) := (blk_cell BK199.out 1).trans rfl
        have hcz37_2 : wc.cell? ⟨gb199, 2, none⟩ = some (.int .i64 a0_2) := (blk_cell BK199.out 2).trans rfl
        have hfz37_0 := blk_frozen BK199.out 0
        have hfz37_1 := blk_frozen BK199.out 1
        have hfz37_2 := blk_frozen BK199.out 2
        go_wp2_with (first | ((with_reducible refine gate_dst (N := 9) rfl ?_); refine box_event ?hg (N := 9) ?hd (cs := #[.int .i64 0, .int .i64 0, .int .i64 0]) (t := 27) ?hr ?_; (case hd => rfl); (case hg => rfl); (case hr => first | (go_simp; done) | (go_simp; rfl)); intro gb205 hg w38 hbox hb; have n0_ := Aside0.mk (blk_below (g := gb198) (o := .cells #[.int .i64 a0_0, .int .i64 a0_1, .int .i64 a0_2] 23 (0, 0)) (by (with_reducible repeat (first | refine blk_drewN ?_ _ | refine blk_drew ?_ | refine blk_alloc ?_ _)); exact BK198.out) hb); have n1_ := Aside0.mk (blk_below (g := gb199) (o := .cells #[.int .i64 a0_0, .int .i64 a0_1, .int .i64 a0_2] 27 (0, 0)) (by (with_reducible repeat (first | refine blk_drewN ?_ _ | refine blk_drew ?_ | refine blk_alloc ?_ _)); exact BK199.out) hb); have n2_ := Aside0.mk (below_step (by repeat (first | (with_reducible first | exact HB.out | apply below_alloc | apply pw_below_drewN | apply below_drew1 | refine below_set ?_ GE198.out | refine below_set ?_ GE199.out) | exact HB.out)) hb); have n3_ := Aside0.mk (hbox); have n4_ := Aside0.mk ((by rw [hg]; exact (below_size (by repeat (first | (with_reducible first | exact HB.out | apply below_alloc | apply pw_below_drewN | apply below_drew1 | refine below_set ?_ GE198.out | refine below_set ?_ GE199.out) | exact HB.out))) : w.heap.size ≤ gb205)); have n5_ := Aside0.mk ((by rw [hg]; exact (below_size (by repeat (first | (with_reducible first | exact HB.out | apply below_alloc | apply pw_below_drewN | apply below_drew1 | refine below_set ?_ GE198.out | refine below_set ?_ GE199.out) | exact HB.out))) : w.heap.size ≤ gb205)); have n6_ := Aside0.mk ((by rw [hg]; exact Nat.ne_of_lt (blk_lt (g := gb198) (o := .cells #[.int .i64 a0_0, .int .i64 a0_1, .int .i64 a0_2] 23 (0, 0)) (by (with_reducible repeat (first | refine blk_drewN ?_ _ | refine blk_drew ?_ | refine blk_alloc ?_ _)); exact BK198.out)) : gb198 ≠ gb205)); have n7_ := Aside0.mk ((by rw [hg]; exact Nat.ne_of_gt (blk_lt (g := gb198) (o := .cells #[.int .i64 a0_0, .int .i64 a0_1, .int .i64 a0_2] 23 (0, 0)) (by (with_reducible repeat (first | refine blk_drewN ?_ _ | refine blk_drew ?_ | refine blk_alloc ?_ _)); exact BK198.out)) : gb205 ≠ gb198)); have n8_ := Aside0.mk ((by rw [hg]; exact Nat.ne_of_lt (blk_lt (g := gb199) (o := .cells #[.int .i64 a0_0, .int .i64 a0_1, .int .i64 a0_2] 27 (0, 0)) (by (with_reducible repeat (first | refine blk_drewN ?_ _ | refine blk_drew ?_ | refine blk_alloc ?_ _)); exact BK199.out)) : gb199 ≠ gb205)); have n9_ := Aside0.mk ((by rw [hg]; exact Nat.ne_of_gt (blk_lt (g := gb199) (o := .cells #[.int .i64 a0_0, .int .i64 a0_1, .int .i64 a0_2] 27 (0, 0)) (by (with_reducible repeat (first | refine blk_drewN ?_ _ | refine blk_drew ?_ | refine blk_alloc ?_ _)); exact BK199.out)) : gb205 ≠ gb199)); clear BK198; clear BK199; clear HB; have BK198 := n0_; have BK199 := n1_; have HB := n2_; have BK205 := n3_; have GW205 := n4_; have GE205 := n5_; have NB198_205 := n6_; have NB205_198 := n7_; have NB199_205 := n8_; have NB205_199 := n9_; clear n0_ n1_ n2_ n3_ n4_ n5_ n6_ n7_ n8_ n9_; clear hb hbox hg; have hnb39 := NB205_198.out; have hnc39 := NB198_205.out; have hnb40 := NB205_199.out; have hnc40 := NB199_205.out; have hcz41_0 : w38.cell? ⟨gb205, 0, none⟩ = some (.int .i64 0) := (blk_cell BK205.out 0).trans rfl; have hcz41_1 : w38.cell? ⟨gb205, 1, none⟩ = some (.int .i64 0) := (blk_cell BK205.out 1).trans rfl; have hcz41_2 : w38.cell? ⟨gb205, 2, none⟩ = some (.int .i64 0) := (blk_cell BK205.out 2).trans rfl; have hfz41_0 := blk_frozen BK205.out 0; have hfz41_1 := blk_frozen BK205.out 1; have hfz41_2 := blk_frozen BK205.out 2))
        go_loopg [8, 10] kj3 (fun kq v8 v10 w' => ∃ (x8_2 : Int) (x10_2 : Int) (x206000_2 : Int) (x206001_2 : Int) (x206002_2 : Int), v8 = .int .i64 x8_2 ∧ v10 = .int .i64 x10_2 ∧ Aside0 (paymasterlaw06_DatesDays.l0 kq a1 a2 x8_2 x10_2 a0_0 a0_1 a0_2 x206000_2 x206001_2 x206002_2 = some r) ∧ Aside0 (kq ≤ kj3) ∧ Aside0 (w'.heap[gb198]? = some (.cells #[.int .i64 a0_0, .int .i64 a0_1, .int .i64 a0_2] 23 (0, 0))) ∧ Aside0 (w'.heap[gb199]? = some (.cells #[.int .i64 a0_0, .int .i64 a0_1, .int .i64 a0_2] 27 (0, 0))) ∧ Aside0 (w'.heap[gb205]? = some (.cells #[.int .i64 x206000_2, .int .i64 x206001_2, .int .i64 x206002_2] 27 (0, 0))) ∧ Aside0 (Below w.heap.size w w'))
        case atStart => exact ⟨(0), (0), (a0_0), (a0_1), (a0_2), (by first | rfl | (simp; done) | (simp [*]; done)), (by first | rfl | (simp; done) | (simp [*]; done)), H', ⟨Nat.le_refl _⟩, ⟨by (with_reducible repeat (first | refine blk_drewN ?_ _ | refine blk_drew ?_ | refine blk_alloc ?_ _)); refine blk_far ?_ NB198_205.out _; (with_reducible repeat (first | refine blk_drewN ?_ _ | refine blk_drew ?_ | refine blk_alloc ?_ _)); refine blk_far ?_ NB198_205.out _; (with_reducible repeat (first | refine blk_drewN ?_ _ | refine blk_drew ?_ | refine blk_alloc ?_ _)); refine blk_far ?_ NB198_205.out _; (with_reducible repeat (first | refine blk_drewN ?_ _ | refine blk_drew ?_ | refine blk_alloc ?_ _)); exact BK198.out⟩, ⟨by (with_reducible repeat (first | refine blk_drewN ?_ _ | refine blk_drew ?_ | refine blk_alloc ?_ _)); refine blk_far ?_ NB199_205.out _; (with_reducible repeat (first | refine blk_drewN ?_ _ | refine blk_drew ?_ | refine blk_alloc ?_ _)); refine blk_far ?_ NB199_205.out _; (with_reducible repeat (first | refine blk_drewN ?_ _ | refine blk_drew ?_ | refine blk_alloc ?_ _)); refine blk_far ?_ NB199_205.out _; (with_reducible repeat (first | refine blk_drewN ?_ _ | refine blk_drew ?_ | refine blk_alloc ?_ _)); exact BK199.out⟩, ⟨by (with_reducible repeat (first | refine blk_drewN ?_ _ | refine blk_drew ?_ | refine blk_alloc ?_ _)); refine blk_put (cs := #[.int .i64 a0_0, .int .i64 a0_1, .int .i64 0]) ?_ 2 _ rfl; (with_reducible repeat (first | refine blk_drewN ?_ _ | refine blk_drew ?_ | refine blk_alloc ?_ _)); refine blk_put (cs := #[.int .i64 a0_0, .int .i64 0, .int .i64 0]) ?_ 1 _ rfl; (with_reducible repeat (first | refine blk_drewN ?_ _ | refine blk_drew ?_ | refine blk_alloc ?_ _)); refine blk_put (cs := #[.int .i64 0, .int .i64 0, .int .i64 0]) ?_ 0 _ rfl; (with_reducible repeat (first | refine blk_drewN ?_ _ | refine blk_drew ?_ | refine blk_alloc ?_ _)); exact BK205.out⟩, ⟨by repeat (first | (with_reducible first | exact HB.out | apply below_alloc | apply pw_below_drewN | apply below_drew1 | refine below_set ?_ GE198.out | refine below_set ?_ GE199.out | refine below_set ?_ GE205.out) | exact HB.out)⟩⟩
        case round =>
          clear H'
          try clear c1
          try clear c2
          try clear p2
          try clear c3
          try clear c4
          try clear c7
          try clear c8
          try clear c11
          try clear c12
          try clear c16
          try clear c17
          try clear c19
          try clear c21
          try clear c23
          try clear c28
          try clear c28b0
          try clear c28b1
          try clear c30
          try clear c36
          try clear c39
          try clear c40
          try clear hcz13_0
          try clear hcz13_1
          try clear hcz13_2
          try clear hcz15_0
          try clear hcz15_1
          try clear hcz15_2
          try clear hcz17_0
          try clear hcz17_1
          try clear hcz17_2
          try clear hcz24_0
          try clear hcz24_1
          try clear hcz24_2
          try clear hcz31_0
          try clear hcz31_1
          try clear hcz31_2
          try clear hcz33_0
          try clear hcz33_1
          try clear hcz33_2
          try clear hcz37_0
          try clear hcz37_1
          try clear hcz37_2
          try clear hcz41_0
          try clear hcz41_1
          try clear hcz41_2
          try clear hcz6_0
          try clear hcz6_1
          try clear hcz6_2
          try clear hcz9_0
          try clear hcz9_1
          try clear hcz9_2
          try clear hfz13_0
          try clear hfz13_1
          try clear hfz13_2
          try clear hfz15_0
          try clear hfz15_1
          try clear hfz15_2
          try clear hfz17_0
          try clear hfz17_1
          try clear hfz17_2
          try clear hfz24_0
          try clear hfz24_1
          try clear hfz24_2
          try clear hfz31_0
          try clear hfz31_1
          try clear hfz31_2
          try clear hfz33_0
          try clear hfz33_1
          try clear hfz33_2
          try clear hfz37_0
          try clear hfz37_1
          try clear hfz37_2
          try clear hfz41_0
          try clear hfz41_1
          try clear hfz41_2
          try clear hfz6_0
          try clear hfz6_1
          try clear hfz6_2
          try clear hfz9_0
          try clear hfz9_1
          try clear hfz9_2
          try clear p2
          obtain ⟨x8_2, x10_2, x206000_2, x206001_2, x206002_2, rfl, rfl, HA, HK2, BK198, BK199, BK205, HB⟩ := hrel
          cases gk with
          | zero => exact absurd HA.out (by simp [paymasterlaw06_DatesDays.l0])
          | succ k2 =>
            have H := HA.out
            clear HA
            simp only [paymasterlaw06_DatesDays.l0] at H
            by_cases c42 : x10_2 ≤ (wrap64 (Int.tmod a1 800))
            · rw [if_pos c42] at H
              have c42b0 : decide (x10_2 ≤ (wrap64 (Int.tmod a1 800))) = true := decide_eq_true c42
              clear c42
              by_cases c43 : x10_2 > 0
              · rw [if_pos c43] at H
                have c43b0 : decide (0 < x10_2) = true := decide_eq_true c43
                clear c43
                replace H := Option.bind_eq_some_iff.mp H
                obtain ⟨⟨t208, t209, t210⟩, A440, H⟩ := H
                replace H : (if (wrap64 ((wrap64 ((wrap64 (12 * t208)) + t209)) - 1)) = a2 then (paymasterlaw06_DatesDays.l0 k2 a1 a2 (wrap64 (x8_2 + 1)) (wrap64 (x10_2 + 1)) a0_0 a0_1 a0_2 t208 t209 t210) else (paymasterlaw06_DatesDays.l0 k2 a1 a2 x8_2 (wrap64 (x10_2 + 1)) a0_0 a0_1 a0_2 t208 t209 t210)) = some r := H
                have A44 := Aside0.mk A440
                clear A440
                by_cases c45 : (wrap64 ((wrap64 ((wrap64 (12 * t208)) + t209)) - 1)) = a2
                · rw [if_pos c45] at H
                  have c45b0 : ((wrap64 ((wrap64 ((wrap64 (12 * t208)) + t209)) - 1)) == a2) = true := beq_iff_eq.mpr c45
                  have c45b1 : ((wrap64 ((wrap64 ((wrap64 (12 * t208)) + t209)) - 1)) != a2) = false := bne_eq_false_iff_eq.mpr c45
                  clear c45
                  have H' := Aside0.mk H
                  clear H
                  have hnb46 := NB205_198.out
                  have hnc46 := NB198_205.out
                  have hnb47 := NB205_199.out
                  have hnc47 := NB199_205.out
                  have hcz48_0 : wr.cell? ⟨gb205, 0, none⟩ = some (.int .i64 x206000_2) := (blk_cell BK205.out 0).trans rfl
                  have hcz48_1 : wr.cell? ⟨gb205, 1, none⟩ = some (.int .i64 x206001_2) := (blk_cell BK205.out 1).trans rfl
                  have hcz48_2 : wr.cell? ⟨gb205, 2, none⟩ = some (.int .i64 x206002_2) := (blk_cell BK205.out 2).trans rfl
                  have hfz48_0 := blk_frozen BK205.out 0
                  have hfz48_1 := blk_frozen BK205.out 1
                  have hfz48_2 := blk_frozen BK205.out 2
                  go_wp2_with (first | ((with_reducible refine gate_callee (f := 14) rfl ?_); refine goesL_ (some 43) rfl rfl Try.func14 (by kernel_rfl) rfl #[.agg #[.int .i64 x206000_2, .int .i64 x206001_2, .int .i64 x206002_2]] rfl (by (try simp only [List.map_toArray, List.map_cons, List.map_nil]); first | done | rfl | (simp only [List.length_drop, List.length_take]; rfl)) ?_; (with_reducible refine (paymasterref06_Next.calls k2 x206000_2 x206001_2 x206002_2 t208 t209 t210 _ A44.out).mono ?_); rintro e w49 ⟨rfl, hb⟩; refine ⟨_, rfl, ?_⟩; have n0_ := Aside0.mk (blk_below (g := gb198) (o := .cells #[.int .i64 a0_0, .int .i64 a0_1, .int .i64 a0_2] 23 (0, 0)) (by (with_reducible repeat (first | refine blk_drewN ?_ _ | refine blk_drew ?_ | refine blk_alloc ?_ _)); exact BK198.out) hb); have n1_ := Aside0.mk (blk_below (g := gb199) (o := .cells #[.int .i64 a0_0, .int .i64 a0_1, .int .i64 a0_2] 27 (0, 0)) (by (with_reducible repeat (first | refine blk_drewN ?_ _ | refine blk_drew ?_ | refine blk_alloc ?_ _)); exact BK199.out) hb); have n2_ := Aside0.mk (blk_below (g := gb205) (o := .cells #[.int .i64 x206000_2, .int .i64 x206001_2, .int .i64 x206002_2] 27 (0, 0)) (by (with_reducible repeat (first | refine blk_drewN ?_ _ | refine blk_drew ?_ | refine blk_alloc ?_ _)); exact BK205.out) hb); have n3_ := Aside0.mk (below_step (by repeat (first | (with_reducible first | exact HB.out | apply below_alloc | apply pw_below_drewN | apply below_drew1 | refine below_set ?_ GE198.out | refine below_set ?_ GE199.out | refine below_set ?_ GE205.out) | exact HB.out)) hb); clear BK198; clear BK199; clear BK205; clear HB; have BK198 := n0_; have BK199 := n1_; have BK205 := n2_; have HB := n3_; clear n0_ n1_ n2_ n3_; (try clear hb); (try clear hb2); (try clear hk); (try clear hi); have hcz50_0 : w49.cell? ⟨gb205, 0, none⟩ = some (.int .i64 x206000_2) := (blk_cell BK205.out 0).trans rfl; have hcz50_1 : w49.cell? ⟨gb205, 1, none⟩ = some (.int .i64 x206001_2) := (blk_cell BK205.out 1).trans rfl; have hcz50_2 : w49.cell? ⟨gb205, 2, none⟩ = some (.int .i64 x206002_2) := (blk_cell BK205.out 2).trans rfl; have hfz50_0 := blk_frozen BK205.out 0; have hfz50_1 := blk_frozen BK205.out 1; have hfz50_2 := blk_frozen BK205.out 2))
                  go_roundg k2
                  case measure => have := HJ3.out; have := HK2.out; omega
                  case rel => exact ⟨(wrap64 (x8_2 + 1)), (wrap64 (x10_2 + 1)), (t208), (t209), (t210), (by first | rfl | (simp; done) | (simp [*]; done)), (by first | rfl | (simp; done) | (simp [*]; done)), H', ⟨by have := HJ3.out; have := HK2.out; omega⟩, ⟨by (with_reducible repeat (first | refine blk_drewN ?_ _ | refine blk_drew ?_ | refine blk_alloc ?_ _)); refine blk_far ?_ NB198_205.out _; (with_reducible repeat (first | refine blk_drewN ?_ _ | refine blk_drew ?_ | refine blk_alloc ?_ _)); refine blk_far ?_ NB198_205.out _; (with_reducible repeat (first | refine blk_drewN ?_ _ | refine blk_drew ?_ | refine blk_alloc ?_ _)); refine blk_far ?_ NB198_205.out _; (with_reducible repeat (first | refine blk_drewN ?_ _ | refine blk_drew ?_ | refine blk_alloc ?_ _)); exact BK198.out⟩, ⟨by (with_reducible repeat (first | refine blk_drewN ?_ _ | refine blk_drew ?_ | refine blk_alloc ?_ _)); refine blk_far ?_ NB199_205.out _; (with_reducible repeat (first | refine blk_drewN ?_ _ | refine blk_drew ?_ | refine blk_alloc ?_ _)); refine blk_far ?_ NB199_205.out _; (with_reducible repeat (first | refine blk_drewN ?_ _ | refine blk_drew ?_ | refine blk_alloc ?_ _)); refine blk_far ?_ NB199_205.out _; (with_reducible repeat (first | refine blk_drewN ?_ _ | refine blk_drew ?_ | refine blk_alloc ?_ _)); exact BK199.out⟩, ⟨by (with_reducible repeat (first | refine blk_drewN ?_ _ | refine blk_drew ?_ | refine blk_alloc ?_ _)); refine blk_put (cs := #[.int .i64 t208, .int .i64 t209, .int .i64 x206002_2]) ?_ 2 _ rfl; (with_reducible repeat (first | refine blk_drewN ?_ _ | refine blk_drew ?_ | refine blk_alloc ?_ _)); refine blk_put (cs := #[.int .i64 t208, .int .i64 x206001_2, .int .i64 x206002_2]) ?_ 1 _ rfl; (with_reducible repeat (first | refine blk_drewN ?_ _ | refine blk_drew ?_ | refine blk_alloc ?_ _)); refine blk_put (cs := #[.int .i64 x206000_2, .int .i64 x206001_2, .int .i64 x206002_2]) ?_ 0 _ rfl; (with_reducible repeat (first | refine blk_drewN ?_ _ | refine blk_drew ?_ | refine blk_alloc ?_ _)); exact BK205.out⟩, ⟨by repeat (first | (with_reducible first | exact HB.out | apply below_alloc | apply pw_below_drewN | apply below_drew1 | refine below_set ?_ GE198.out | refine below_set ?_ GE199.out | refine below_set ?_ GE205.out) | exact HB.out)⟩⟩
                · rw [if_neg c45] at H
                  have c45b0 : ((wrap64 ((wrap64 ((wrap64 (12 * t208)) + t209)) - 1)) == a2) = false := beq_eq_false_iff_ne.mpr c45
                  have c45b1 : ((wrap64 ((wrap64 ((wrap64 (12 * t208)) + t209)) - 1)) != a2) = true := bne_iff_ne.mpr c45
                  have H' := Aside0.mk H
                  clear H
                  have hnb51 := NB205_198.out
                  have hnc51 := NB198_205.out
                  have hnb52 := NB205_199.out
                  have hnc52 := NB199_205.out
                  have hcz53_0 : wr.cell? ⟨gb205, 0, none⟩ = some (.int .i64 x206000_2) := (blk_cell BK205.out 0).trans rfl
                  have hcz53_1 : wr.cell? ⟨gb205, 1, none⟩ = some (.int .i64 x206001_2) := (blk_cell BK205.out 1).trans rfl
                  have hcz53_2 : wr.cell? ⟨gb205, 2, none⟩ = some (.int .i64 x206002_2) := (blk_cell BK205.out 2).trans rfl
                  have hfz53_0 := blk_frozen BK205.out 0
                  have hfz53_1 := blk_frozen BK205.out 1
                  have hfz53_2 := blk_frozen BK205.out 2
                  go_wp2_with (first | ((with_reducible refine gate_callee (f := 14) rfl ?_); refine goesL_ (some 43) rfl rfl Try.func14 (by kernel_rfl) rfl #[.agg #[.int .i64 x206000_2, .int .i64 x206001_2, .int .i64 x206002_2]] rfl (by (try simp only [List.map_toArray, List.map_cons, List.map_nil]); first | done | rfl | (simp only [List.length_drop, List.length_take]; rfl)) ?_; (with_reducible refine (paymasterref06_Next.calls k2 x206000_2 x206001_2 x206002_2 t208 t209 t210 _ A44.out).mono ?_); rintro e w54 ⟨rfl, hb⟩; refine ⟨_, rfl, ?_⟩; have n0_ := Aside0.mk (blk_below (g := gb198) (o := .cells #[.int .i64 a0_0, .int .i64 a0_1, .int .i64 a0_2] 23 (0, 0)) (by (with_reducible repeat (first | refine blk_drewN ?_ _ | refine blk_drew ?_ | refine blk_alloc ?_ _)); exact BK198.out) hb); have n1_ := Aside0.mk (blk_below (g := gb199) (o := .cells #[.int .i64 a0_0, .int .i64 a0_1, .int .i64 a0_2] 27 (0, 0)) (by (with_reducible repeat (first | refine blk_drewN ?_ _ | refine blk_drew ?_ | refine blk_alloc ?_ _)); exact BK199.out) hb); have n2_ := Aside0.mk (blk_below (g := gb205) (o := .cells #[.int .i64 x206000_2, .int .i64 x206001_2, .int .i64 x206002_2] 27 (0, 0)) (by (with_reducible repeat (first | refine blk_drewN ?_ _ | refine blk_drew ?_ | refine blk_alloc ?_ _)); exact BK205.out) hb); have n3_ := Aside0.mk (below_step (by repeat (first | (with_reducible first | exact HB.out | apply below_alloc | apply pw_below_drewN | apply below_drew1 | refine below_set ?_ GE198.out | refine below_set ?_ GE199.out | refine below_set ?_ GE205.out) | exact HB.out)) hb); clear BK198; clear BK199; clear BK205; clear HB; have BK198 := n0_; have BK199 := n1_; have BK205 := n2_; have HB := n3_; clear n0_ n1_ n2_ n3_; (try clear hb); (try clear hb2); (try clear hk); (try clear hi); have hcz55_0 : w54.cell? ⟨gb205, 0, none⟩ = some (.int .i64 x206000_2) := (blk_cell BK205.out 0).trans rfl; have hcz55_1 : w54.cell? ⟨gb205, 1, none⟩ = some (.int .i64 x206001_2) := (blk_cell BK205.out 1).trans rfl; have hcz55_2 : w54.cell? ⟨gb205, 2, none⟩ = some (.int .i64 x206002_2) := (blk_cell BK205.out 2).trans rfl; have hfz55_0 := blk_frozen BK205.out 0; have hfz55_1 := blk_frozen BK205.out 1; have hfz55_2 := blk_frozen BK205.out 2))
                  go_roundg k2
                  case measure => have := HJ3.out; have := HK2.out; omega
                  case rel => exact ⟨(x8_2), (wrap64 (x10_2 + 1)), (t208), (t209), (t210), (by first | rfl | (simp; done) | (simp [*]; done)), (by first | rfl | (simp; done) | (simp [*]; done)), H', ⟨by have := HJ3.out; have := HK2.out; omega⟩, ⟨by (with_reducible repeat (first | refine blk_drewN ?_ _ | refine blk_drew ?_ | refine blk_alloc ?_ _)); refine blk_far ?_ NB198_205.out _; (with_reducible repeat (first | refine blk_drewN ?_ _ | refine blk_drew ?_ | refine blk_alloc ?_ _)); refine blk_far ?_ NB198_205.out _; (with_reducible repeat (first | refine blk_drewN ?_ _ | refine blk_drew ?_ | refine blk_alloc ?_ _)); refine blk_far ?_ NB198_205.out _; (with_reducible repeat (first | refine blk_drewN ?_ _ | refine blk_drew ?_ | refine blk_alloc ?_ _)); exact BK198.out⟩, ⟨by (with_reducible repeat (first | refine blk_drewN ?_ _ | refine blk_drew ?_ | refine blk_alloc ?_ _)); refine blk_far ?_ NB199_205.out _; (with_reducible repeat (first | refine blk_drewN ?_ _ | refine blk_drew ?_ | refine blk_alloc ?_ _)); refine blk_far ?_ NB199_205.out _; (with_reducible repeat (first | refine blk_drewN ?_ _ | refine blk_drew ?_ | refine blk_alloc ?_ _)); refine blk_far ?_ NB199_205.out _; (with_reducible repeat (first | refine blk_drewN ?_ _ | refine blk_drew ?_ | refine blk_alloc ?_ _)); exact BK199.out⟩, ⟨by (with_reducible repeat (first | refine blk_drewN ?_ _ | refine blk_drew ?_ | refine blk_alloc ?_ _)); refine blk_put (cs := #[.int .i64 t208, .int .i64 t209, .int .i64 x206002_2]) ?_ 2 _ rfl; (with_reducible repeat (first | refine blk_drewN ?_ _ | refine blk_drew ?_ | refine blk_alloc ?_ _)); refine blk_put (cs := #[.int .i64 t208, .int .i64 x206001_2, .int .i64 x206002_2]) ?_ 1 _ rfl; (with_reducible repeat (first | refine blk_drewN ?_ _ | refine blk_drew ?_ | refine blk_alloc ?_ _)); refine blk_put (cs := #[.int .i64 x206000_2, .int .i64 x206001_2, .int .i64 x206002_2]) ?_ 0 _ rfl; (with_reducible repeat (first | refine blk_drewN ?_ _ | refine blk_drew ?_ | refine blk_alloc ?_ _)); exact BK205.out⟩, ⟨by repeat (first | (with_reducible first | exact HB.out | apply below_alloc | apply pw_below_drewN | apply below_drew1 | refine below_set ?_ GE198.out | refine below_set ?_ GE199.out | refine below_set ?_ GE205.out) | exact HB.out)⟩⟩
              · rw [if_neg c43] at H
                have c43b0 : decide (0 < x10_2) = false := decide_eq_false c43
                clear c43
                by_cases c56 : (wrap64 ((wrap64 ((wrap64 (12 * x206000_2)) + x206001_2)) - 1)) = a2
                · rw [if_pos c56] at H
                  have c56b0 : ((wrap64 ((wrap64 ((wrap64 (12 * x206000_2)) + x206001_2)) - 1)) == a2) = true := beq_iff_eq.mpr c56
                  have c56b1 : ((wrap64 ((wrap64 ((wrap64 (12 * x206000_2)) + x206001_2)) - 1)) != a2) = false := bne_eq_false_iff_eq.mpr c56
                  clear c56
                  have H' := Aside0.mk H
                  clear H
                  have hnb57 := NB205_198.out
                  have hnc57 := NB198_205.out
                  have hnb58 := NB205_199.out
                  have hnc58 := NB199_205.out
                  have hcz59_0 : wr.cell? ⟨gb205, 0, none⟩ = some (.int .i64 x206000_2) := (blk_cell BK205.out 0).trans rfl
                  have hcz59_1 : wr.cell? ⟨gb205, 1, none⟩ = some (.int .i64 x206001_2) := (blk_cell BK205.out 1).trans rfl
                  have hcz59_2 : wr.cell? ⟨gb205, 2, none⟩ = some (.int .i64 x206002_2) := (blk_cell BK205.out 2).trans rfl
                  have hfz59_0 := blk_frozen BK205.out 0
                  have hfz59_1 := blk_frozen BK205.out 1
                  have hfz59_2 := blk_frozen BK205.out 2
                  go_wp2
                  go_roundg k2
                  case measure => have := HJ3.out; have := HK2.out; omega
                  case rel => exact ⟨(wrap64 (x8_2 + 1)), (wrap64 (x10_2 + 1)), (x206000_2), (x206001_2), (x206002_2), (by first | rfl | (simp; done) | (simp [*]; done)), (by first | rfl | (simp; done) | (simp [*]; done)), H', ⟨by have := HJ3.out; have := HK2.out; omega⟩, ⟨by (with_reducible repeat (first | refine blk_drewN ?_ _ | refine blk_drew ?_ | refine blk_alloc ?_ _)); exact BK198.out⟩, ⟨by (with_reducible repeat (first | refine blk_drewN ?_ _ | refine blk_drew ?_ | refine blk_alloc ?_ _)); exact BK199.out⟩, ⟨by (with_reducible repeat (first | refine blk_drewN ?_ _ | refine blk_drew ?_ | refine blk_alloc ?_ _)); exact BK205.out⟩, ⟨by repeat (first | (with_reducible first | exact HB.out | apply below_alloc | apply pw_below_drewN | apply below_drew1 | refine below_set ?_ GE198.out | refine below_set ?_ GE199.out | refine below_set ?_ GE205.out) | exact HB.out)⟩⟩
                · rw [if_neg c56] at H
                  have c56b0 : ((wrap64 ((wrap64 ((wrap64 (12 * x206000_2)) + x206001_2)) - 1)) == a2) = false := beq_eq_false_iff_ne.mpr c56
                  have c56b1 : ((wrap64 ((wrap64 ((wrap64 (12 * x206000_2)) + x206001_2)) - 1)) != a2) = true := bne_iff_ne.mpr c56
                  have H' := Aside0.mk H
                  clear H
                  have hnb60 := NB205_198.out
                  have hnc60 := NB198_205.out
                  have hnb61 := NB205_199.out
                  have hnc61 := NB199_205.out
                  have hcz62_0 : wr.cell? ⟨gb205, 0, none⟩ = some (.int .i64 x206000_2) := (blk_cell BK205.out 0).trans rfl
                  have hcz62_1 : wr.cell? ⟨gb205, 1, none⟩ = some (.int .i64 x206001_2) := (blk_cell BK205.out 1).trans rfl
                  have hcz62_2 : wr.cell? ⟨gb205, 2, none⟩ = some (.int .i64 x206002_2) := (blk_cell BK205.out 2).trans rfl
                  have hfz62_0 := blk_frozen BK205.out 0
                  have hfz62_1 := blk_frozen BK205.out 1
                  have hfz62_2 := blk_frozen BK205.out 2
                  go_wp2
                  go_roundg k2
                  case measure => have := HJ3.out; have := HK2.out; omega
                  case rel => exact ⟨(x8_2), (wrap64 (x10_2 + 1)), (x206000_2), (x206001_2), (x206002_2), (by first | rfl | (simp; done) | (simp [*]; done)), (by first | rfl | (simp; done) | (simp [*]; done)), H', ⟨by have := HJ3.out; have := HK2.out; omega⟩, ⟨by (with_reducible repeat (first | refine blk_drewN ?_ _ | refine blk_drew ?_ | refine blk_alloc ?_ _)); exact BK198.out⟩, ⟨by (with_reducible repeat (first | refine blk_drewN ?_ _ | refine blk_drew ?_ | refine blk_alloc ?_ _)); exact BK199.out⟩, ⟨by (with_reducible repeat (first | refine blk_drewN ?_ _ | refine blk_drew ?_ | refine blk_alloc ?_ _)); exact BK205.out⟩, ⟨by repeat (first | (with_reducible first | exact HB.out | apply below_alloc | apply pw_below_drewN | apply below_drew1 | refine below_set ?_ GE198.out | refine below_set ?_ GE199.out | refine below_set ?_ GE205.out) | exact HB.out)⟩⟩
            · rw [if_neg c42] at H
              have c42b0 : decide (x10_2 ≤ (wrap64 (Int.tmod a1 800))) = false := decide_eq_false c42
              clear c42
              replace H := Option.bind_eq_some_iff.mp H
              obtain ⟨t206, A630, H⟩ := H
              replace H : (if t206 = x8_2 then ((paymasterlaw06_awake.f k2).bind fun t207 => (some t207)) else (none)) = some r := H
              have A63 := Aside0.mk A630
              clear A630
              by_cases c64 : t206 = x8_2
              · rw [if_pos c64] at H
                have c64b0 : (t206 == x8_2) = true := beq_iff_eq.mpr c64
                have c64b1 : (t206 != x8_2) = false := bne_eq_false_iff_eq.mpr c64
                clear c64
                replace H := Option.bind_eq_some_iff.mp H
                obtain ⟨t207, A650, H⟩ := H
                replace H : (some t207) = some r := H
                have A65 := Aside0.mk A650
                clear A650
                obtain rfl := Option.some.inj H
                have hnb66 := NB198_199.out
                have hnc66 := NB199_198.out
                have hnb67 := NB198_205.out
                have hnc67 := NB205_198.out
                have hcz68_0 : wr.cell? ⟨gb198, 0, none⟩ = some (.int .i64 a0_0) := (blk_cell BK198.out 0).trans rfl
                have hcz68_1 : wr.cell? ⟨gb198, 1, none⟩ = some (.int .i64 a0_1) := (blk_cell BK198.out 1).trans rfl
                have hcz68_2 : wr.cell? ⟨gb198, 2, none⟩ = some (.int .i64 a0_2) := (blk_cell BK198.out 2).trans rfl
                have hfz68_0 := blk_frozen BK198.out 0
                have hfz68_1 := blk_frozen BK198.out 1
                have hfz68_2 := blk_frozen BK198.out 2
                have hnb69 := NB205_199.out
                have hnc69 := NB199_205.out
                have hcz70_0 : wr.cell? ⟨gb205, 0, none⟩ = some (.int .i64 x206000_2) := (blk_cell BK205.out 0).trans rfl
                have hcz70_1 : wr.cell? ⟨gb205, 1, none⟩ = some (.int .i64 x206001_2) := (blk_cell BK205.out 1).trans rfl
                have hcz70_2 : wr.cell? ⟨gb205, 2, none⟩ = some (.int .i64 x206002_2) := (blk_cell BK205.out 2).trans rfl
                have hfz70_0 := blk_frozen BK205.out 0
                have hfz70_1 := blk_frozen BK205.out 1
                have hfz70_2 := blk_frozen BK205.out 2
                go_wp2_with (first | ((with_reducible refine gate_callee (f := 20) rfl ?_); refine goesL_ (some 58) rfl rfl Try.func20 (by kernel_rfl) rfl #[.agg #[.int .i64 a0_0, .int .i64 a0_1, .int .i64 a0_2], .agg #[.int .i64 x206000_2, .int .i64 x206001_2, .int .i64 x206002_2], .int .i64 a2] rfl (by (try simp only [List.map_toArray, List.map_cons, List.map_nil]); first | done | rfl | (simp only [List.length_drop, List.length_take]; rfl)) ?_; (with_reducible refine (dates_Days.calls k2 a0_0 a0_1 a0_2 x206000_2 x206001_2 x206002_2 a2 t206 _ A63.out).mono ?_); rintro e w71 ⟨rfl, hb⟩; refine ⟨_, rfl, ?_⟩; have n0_ := Aside0.mk (blk_below (g := gb198) (o := .cells #[.int .i64 a0_0, .int .i64 a0_1, .int .i64 a0_2] 23 (0, 0)) (by (with_reducible repeat (first | refine blk_drewN ?_ _ | refine blk_drew ?_ | refine blk_alloc ?_ _)); exact BK198.out) hb); have n1_ := Aside0.mk (blk_below (g := gb199) (o := .cells #[.int .i64 a0_0, .int .i64 a0_1, .int .i64 a0_2] 27 (0, 0)) (by (with_reducible repeat (first | refine blk_drewN ?_ _ | refine blk_drew ?_ | refine blk_alloc ?_ _)); exact BK199.out) hb); have n2_ := Aside0.mk (blk_below (g := gb205) (o := .cells #[.int .i64 x206000_2, .int .i64 x206001_2, .int .i64 x206002_2] 27 (0, 0)) (by (with_reducible repeat (first | refine blk_drewN ?_ _ | refine blk_drew ?_ | refine blk_alloc ?_ _)); exact BK205.out) hb); have n3_ := Aside0.mk (below_step (by repeat (first | (with_reducible first | exact HB.out | apply below_alloc | apply pw_below_drewN | apply below_drew1 | refine below_set ?_ GE198.out | refine below_set ?_ GE199.out | refine below_set ?_ GE205.out) | exact HB.out)) hb); clear BK198; clear BK199; clear BK205; clear HB; have BK198 := n0_; have BK199 := n1_; have BK205 := n2_; have HB := n3_; clear n0_ n1_ n2_ n3_; (try clear hb); (try clear hb2); (try clear hk); (try clear hi)) | (go_at_call 12; (with_reducible refine (paymasterlaw06_awake.calls k2  t207 _ A65.out).mono ?_); rintro e w72 ⟨rfl, hb⟩; have n0_ := Aside0.mk (blk_below (g := gb198) (o := .cells #[.int .i64 a0_0, .int .i64 a0_1, .int .i64 a0_2] 23 (0, 0)) (by (with_reducible repeat (first | refine blk_drewN ?_ _ | refine blk_drew ?_ | refine blk_alloc ?_ _)); exact BK198.out) hb); have n1_ := Aside0.mk (blk_below (g := gb199) (o := .cells #[.int .i64 a0_0, .int .i64 a0_1, .int .i64 a0_2] 27 (0, 0)) (by (with_reducible repeat (first | refine blk_drewN ?_ _ | refine blk_drew ?_ | refine blk_alloc ?_ _)); exact BK199.out) hb); have n2_ := Aside0.mk (blk_below (g := gb205) (o := .cells #[.int .i64 x206000_2, .int .i64 x206001_2, .int .i64 x206002_2] 27 (0, 0)) (by (with_reducible repeat (first | refine blk_drewN ?_ _ | refine blk_drew ?_ | refine blk_alloc ?_ _)); exact BK205.out) hb); have n3_ := Aside0.mk (below_step (by repeat (first | (with_reducible first | exact HB.out | apply below_alloc | apply pw_below_drewN | apply below_drew1 | refine below_set ?_ GE198.out | refine below_set ?_ GE199.out | refine below_set ?_ GE205.out) | exact HB.out)) hb); clear BK198; clear BK199; clear BK205; clear HB; have BK198 := n0_; have BK199 := n1_; have BK205 := n2_; have HB := n3_; clear n0_ n1_ n2_ n3_; (try clear hb); (try clear hb2); (try clear hk); (try clear hi)))
                go_ret
                exact ⟨by first | rfl | (simp [errW_none, errW_some] <;> rfl) | (simp [*, errW_none, errW_some] <;> rfl), by repeat (first | (with_reducible first | exact HB.out | apply below_alloc | apply pw_below_drewN | apply below_drew1 | refine below_set ?_ GE198.out | refine below_set ?_ GE199.out | refine below_set ?_ GE205.out) | exact HB.out)⟩
              · rw [if_neg c64] at H
                exact absurd H (by simp)

end Go.Proofs.Ytkfhclichfjhmaa.PA
