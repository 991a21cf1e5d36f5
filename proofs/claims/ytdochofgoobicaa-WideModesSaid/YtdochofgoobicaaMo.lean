/- The walk of WideModes: its array of four numbers is followed by hand. -/
import Derived.Test.YtdochofgoobicaaPAx7
namespace Go.Proofs.Ytdochofgoobicaa.PA
open Go.RowKit Go.Proofs.YtdochofgoobicaaW.PrintWords Go.Proofs.YtdochofgoobicaaW.PrintLast Go.Proofs.YtdochofgoobicaaW.PrintMore
attribute [local go_sem] max2_int min2_int max_two min_two max_three min_three max_four min_four
set_option linter.unusedVariables false
set_option linter.unusedSimpArgs false
def lAt (F : Int → Int × Int) (i j : Int) : Int := if j < i then mx (F j).1 (wrap64 (-(F j).1)) else 0
theorem lAt_at {F : Int → Int × Int} {i i' q e m : Int} (h : (q, e) = F i) (hi : i' = i + 1) (hm : mx q (wrap64 (-q)) = m) : lAt F i' i = m := by
  unfold lAt
  rw [if_pos (by omega), ← h]
  exact hm
theorem lAt_far {F : Int → Int × Int} {i i' j : Int} (hi : i' = i + 1) (hj : j ≠ i) : lAt F i' j = lAt F i j := by
  unfold lAt
  by_cases h : j < i
  · rw [if_pos h, if_pos (by omega)]
  · rw [if_neg h, if_neg (by omega)]
set_option maxHeartbeats 8000000 in
set_option maxRecDepth 100000 in
theorem modes_calls (k : Nat) (a b c : Int) (F : Int → Int × Int) (hF : ∀ j, 0 ≤ j → j < 4 → wide_MulDiv.f k a b c j = some (F j))
    (hbad : ∀ j, 0 ≤ j → j < 4 → (∀ i, 0 ≤ i → i < j → (F i).2 = 0) → (F j).2 ≠ 0 → (F j).1 = 0 ∧ (0 < j ∨ (F j).2 ≠ 1))
    (aw : paymasterlaw02_awake.f k = some true) (t : Int) (w : World)
    (hok : (∀ i, 0 ≤ i → i < 4 → (F i).2 = 0) → (∀ j, 0 ≤ j → j < 4 → lAt F 4 0 ≤ lAt F 4 j ∧ lAt F 4 j ≤ lAt F 4 1) ∧ wrap64 (lAt F 4 1 - lAt F 4 0) ≤ 1 ∧ wide_Cmp.f k a b (F 0).1 c = some t ∧ (lAt F 4 0 == lAt F 4 1) = (t == 0)) :
    Calls Try.prog 5 #[.int .i64 a, .int .i64 b, .int .i64 c] w fun e w' => e = .returned (.bool true) ∧ Below w.heap.size w w' := by
  have HB := Aside0.mk (Below.refl w.heap.size w)
  go_enter Try.func5, Try.ntmps5
  go_wp2_with (first | ((with_reducible refine gate_dst (N := 7) rfl ?_); refine box_event ?hg (N := 7) ?hd (cs := #[.int .i64 0, .int .i64 0, .int .i64 0, .int .i64 0]) (t := 37) ?hr ?_; (case hd => rfl); (case hg => rfl); (case hr => first | (go_simp; done) | (go_simp; rfl)); intro gb hg w2 hbox hb; have n0_ := Aside0.mk (below_step (by repeat (first | (with_reducible first | exact HB.out | apply below_alloc | apply pw_below_drewN | apply below_drew1) | exact HB.out)) hb); have n1_ := Aside0.mk (hbox); have n2_ := Aside0.mk ((by rw [hg]; exact (below_size (by repeat (first | (with_reducible first | exact HB.out | apply below_alloc | apply pw_below_drewN | apply below_drew1) | exact HB.out))) : w.heap.size ≤ gb)); clear HB; have HB := n0_; have BK := n1_; have GE := n2_; clear n0_ n1_ n2_; clear hb hbox hg))
  go_loopg [16] 5 (fun kq v16 w' => ∃ (i : Int), v16 = .int .i64 i ∧ Aside0 (0 ≤ i ∧ i ≤ 4 ∧ (kq : Int) = 5 - i) ∧ Aside0 (∀ j, 0 ≤ j → j < i → (F j).2 = 0) ∧ Aside0 (w'.heap[gb]? = some (.cells #[.int .i64 (lAt F i 0), .int .i64 (lAt F i 1), .int .i64 (lAt F i 2), .int .i64 (lAt F i 3)] 37 (0, 0))) ∧ Aside0 (Below w.heap.size w w'))
  case atStart =>
    refine ⟨0, rfl, ⟨by omega, by omega, by omega⟩, ⟨fun j h0 h1 => by omega⟩, ⟨?_⟩, ⟨by repeat (first | (with_reducible first | exact HB.out | apply below_alloc | apply pw_below_drewN | apply below_drew1) | exact HB.out)⟩⟩
    show w2.heap[gb]? = some (.cells #[.int .i64 (lAt F 0 0), .int .i64 (lAt F 0 1), .int .i64 (lAt F 0 2), .int .i64 (lAt F 0 3)] 37 (0, 0))
    rw [lAt, lAt, lAt, lAt, if_neg (by omega), if_neg (by omega), if_neg (by omega), if_neg (by omega)]
    exact BK.out
  case round =>
    obtain ⟨i, rfl, HI, HE, BK, HB⟩ := hrel
    obtain ⟨i0, i4, ik⟩ := HI.out
    have hcz0 : wr.cell? ⟨gb, 0, none⟩ = some (.int .i64 (lAt F i 0)) := (blk_cell BK.out 0).trans rfl
    have hcz1 : wr.cell? ⟨gb, 1, none⟩ = some (.int .i64 (lAt F i 1)) := (blk_cell BK.out 1).trans rfl
    have hcz2 : wr.cell? ⟨gb, 2, none⟩ = some (.int .i64 (lAt F i 2)) := (blk_cell BK.out 2).trans rfl
    have hcz3 : wr.cell? ⟨gb, 3, none⟩ = some (.int .i64 (lAt F i 3)) := (blk_cell BK.out 3).trans rfl
    have hfz0 := blk_frozen BK.out 0
    have hfz1 := blk_frozen BK.out 1
    have hfz2 := blk_frozen BK.out 2
    have hfz3 := blk_frozen BK.out 3
    by_cases c4 : i < 4
    · have A := Aside0.mk (hF i i0 c4)
      obtain ⟨⟨q, e⟩, hq⟩ : ∃ p, p = F i := ⟨_, rfl⟩
      rw [← hq] at A
      have hq' := Aside0.mk hq
      clear hq
      have h4 : i = 0 ∨ i = 1 ∨ i = 2 ∨ i = 3 := by omega
      by_cases c5 : e = 0
      · have c5b1 : (e != 0) = false := bne_eq_false_iff_eq.mpr c5
        subst c5
        obtain ⟨k1, rfl⟩ : ∃ m, gk = m + 1 := ⟨gk - 1, by omega⟩
        rcases h4 with rfl | rfl | rfl | rfl
        · by_cases c6 : q < wrap64 (-q)
          · have c6b := decide_eq_true c6
            have hm : mx q (wrap64 (-q)) = wrap64 (-q) := by unfold mx; rw [if_pos c6]
            go_wp2_with (first | ((with_reducible refine gate_callee (f := 11) rfl ?_); refine goesL_ (some 24) rfl rfl Try.func11 (by kernel_rfl) rfl #[.int .i64 a, .int .i64 b, .int .i64 c, .int .i64 0] rfl (by (try simp only [List.map_toArray, List.map_cons, List.map_nil]); first | done | rfl | (simp only [List.length_drop, List.length_take]; rfl)) ?_; (with_reducible refine (wide_MulDiv.calls k a b c 0 q 0 _ A.out).mono ?_); rintro e' w' ⟨rfl, ⟨nd, rfl⟩⟩; refine ⟨_, rfl, ?_⟩))
            go_roundg k1
            case measure => omega
            case rel =>
              refine ⟨1, rfl, ⟨by omega, by omega, by omega⟩, ⟨fun j h0 h1 => ?_⟩, ⟨?_⟩, ⟨by repeat (first | (with_reducible first | exact HB.out | apply below_alloc | apply pw_below_drewN | apply below_drew1 | refine below_set ?_ GE.out) | exact HB.out)⟩⟩
              · by_cases hj : j = 0
                · rw [hj, ← hq'.out]
                · exact HE.out j h0 (by omega)
              · rw [lAt_far (i' := 1) (i := 0) (j := 1) rfl (by decide)]; rw [lAt_far (i' := 1) (i := 0) (j := 2) rfl (by decide)]; rw [lAt_far (i' := 1) (i := 0) (j := 3) rfl (by decide)]; rw [lAt_at (i' := 1) hq'.out rfl hm]
                exact blk_put (cs := #[.int .i64 (lAt F 0 0), .int .i64 (lAt F 0 1), .int .i64 (lAt F 0 2), .int .i64 (lAt F 0 3)]) (blk_drewN BK.out _) 0 _ rfl
          · have c6b := decide_eq_false c6
            have hm : mx q (wrap64 (-q)) = q := by unfold mx; rw [if_neg c6]
            go_wp2_with (first | ((with_reducible refine gate_callee (f := 11) rfl ?_); refine goesL_ (some 24) rfl rfl Try.func11 (by kernel_rfl) rfl #[.int .i64 a, .int .i64 b, .int .i64 c, .int .i64 0] rfl (by (try simp only [List.map_toArray, List.map_cons, List.map_nil]); first | done | rfl | (simp only [List.length_drop, List.length_take]; rfl)) ?_; (with_reducible refine (wide_MulDiv.calls k a b c 0 q 0 _ A.out).mono ?_); rintro e' w' ⟨rfl, ⟨nd, rfl⟩⟩; refine ⟨_, rfl, ?_⟩))
            go_roundg k1
            case measure => omega
            case rel =>
              refine ⟨1, rfl, ⟨by omega, by omega, by omega⟩, ⟨fun j h0 h1 => ?_⟩, ⟨?_⟩, ⟨by repeat (first | (with_reducible first | exact HB.out | apply below_alloc | apply pw_below_drewN | apply below_drew1 | refine below_set ?_ GE.out) | exact HB.out)⟩⟩
              · by_cases hj : j = 0
                · rw [hj, ← hq'.out]
                · exact HE.out j h0 (by omega)
              · rw [lAt_far (i' := 1) (i := 0) (j := 1) rfl (by decide)]; rw [lAt_far (i' := 1) (i := 0) (j := 2) rfl (by decide)]; rw [lAt_far (i' := 1) (i := 0) (j := 3) rfl (by decide)]; rw [lAt_at (i' := 1) hq'.out rfl hm]
                exact blk_put (cs := #[.int .i64 (lAt F 0 0), .int .i64 (lAt F 0 1), .int .i64 (lAt F 0 2), .int .i64 (lAt F 0 3)]) (blk_drewN BK.out _) 0 _ rfl
        · by_cases c6 : q < wrap64 (-q)
          · have c6b := decide_eq_true c6
            have hm : mx q (wrap64 (-q)) = wrap64 (-q) := by unfold mx; rw [if_pos c6]
            go_wp2_with (first | ((with_reducible refine gate_callee (f := 11) rfl ?_); refine goesL_ (some 24) rfl rfl Try.func11 (by kernel_rfl) rfl #[.int .i64 a, .int .i64 b, .int .i64 c, .int .i64 1] rfl (by (try simp only [List.map_toArray, List.map_cons, List.map_nil]); first | done | rfl | (simp only [List.length_drop, List.length_take]; rfl)) ?_; (with_reducible refine (wide_MulDiv.calls k a b c 1 q 0 _ A.out).mono ?_); rintro e' w' ⟨rfl, ⟨nd, rfl⟩⟩; refine ⟨_, rfl, ?_⟩))
            go_roundg k1
            case measure => omega
            case rel =>
              refine ⟨2, rfl, ⟨by omega, by omega, by omega⟩, ⟨fun j h0 h1 => ?_⟩, ⟨?_⟩, ⟨by repeat (first | (with_reducible first | exact HB.out | apply below_alloc | apply pw_below_drewN | apply below_drew1 | refine below_set ?_ GE.out) | exact HB.out)⟩⟩
              · by_cases hj : j = 1
                · rw [hj, ← hq'.out]
                · exact HE.out j h0 (by omega)
              · rw [lAt_far (i' := 2) (i := 1) (j := 0) rfl (by decide)]; rw [lAt_far (i' := 2) (i := 1) (j := 2) rfl (by decide)]; rw [lAt_far (i' := 2) (i := 1) (j := 3) rfl (by decide)]; rw [lAt_at (i' := 2) hq'.out rfl hm]
                exact blk_put (cs := #[.int .i64 (lAt F 1 0), .int .i64 (lAt F 1 1), .int .i64 (lAt F 1 2), .int .i64 (lAt F 1 3)]) (blk_drewN BK.out _) 1 _ rfl
          · have c6b := decide_eq_false c6
            have hm : mx q (wrap64 (-q)) = q := by unfold mx; rw [if_neg c6]
            go_wp2_with (first | ((with_reducible refine gate_callee (f := 11) rfl ?_); refine goesL_ (some 24) rfl rfl Try.func11 (by kernel_rfl) rfl #[.int .i64 a, .int .i64 b, .int .i64 c, .int .i64 1] rfl (by (try simp only [List.map_toArray, List.map_cons, List.map_nil]); first | done | rfl | (simp only [List.length_drop, List.length_take]; rfl)) ?_; (with_reducible refine (wide_MulDiv.calls k a b c 1 q 0 _ A.out).mono ?_); rintro e' w' ⟨rfl, ⟨nd, rfl⟩⟩; refine ⟨_, rfl, ?_⟩))
            go_roundg k1
            case measure => omega
            case rel =>
              refine ⟨2, rfl, ⟨by omega, by omega, by omega⟩, ⟨fun j h0 h1 => ?_⟩, ⟨?_⟩, ⟨by repeat (first | (with_reducible first | exact HB.out | apply below_alloc | apply pw_below_drewN | apply below_drew1 | refine below_set ?_ GE.out) | exact HB.out)⟩⟩
              · by_cases hj : j = 1
                · rw [hj, ← hq'.out]
                · exact HE.out j h0 (by omega)
              · rw [lAt_far (i' := 2) (i := 1) (j := 0) rfl (by decide)]; rw [lAt_far (i' := 2) (i := 1) (j := 2) rfl (by decide)]; rw [lAt_far (i' := 2) (i := 1) (j := 3) rfl (by decide)]; rw [lAt_at (i' := 2) hq'.out rfl hm]
                exact blk_put (cs := #[.int .i64 (lAt F 1 0), .int .i64 (lAt F 1 1), .int .i64 (lAt F 1 2), .int .i64 (lAt F 1 3)]) (blk_drewN BK.out _) 1 _ rfl
        · by_cases c6 : q < wrap64 (-q)
          · have c6b := decide_eq_true c6
            have hm : mx q (wrap64 (-q)) = wrap64 (-q) := by unfold mx; rw [if_pos c6]
            go_wp2_with (first | ((with_reducible refine gate_callee (f := 11) rfl ?_); refine goesL_ (some 24) rfl rfl Try.func11 (by kernel_rfl) rfl #[.int .i64 a, .int .i64 b, .int .i64 c, .int .i64 2] rfl (by (try simp only [List.map_toArray, List.map_cons, List.map_nil]); first | done | rfl | (simp only [List.length_drop, List.length_take]; rfl)) ?_; (with_reducible refine (wide_MulDiv.calls k a b c 2 q 0 _ A.out).mono ?_); rintro e' w' ⟨rfl, ⟨nd, rfl⟩⟩; refine ⟨_, rfl, ?_⟩))
            go_roundg k1
            case measure => omega
            case rel =>
              refine ⟨3, rfl, ⟨by omega, by omega, by omega⟩, ⟨fun j h0 h1 => ?_⟩, ⟨?_⟩, ⟨by repeat (first | (with_reducible first | exact HB.out | apply below_alloc | apply pw_below_drewN | apply below_drew1 | refine below_set ?_ GE.out) | exact HB.out)⟩⟩
              · by_cases hj : j = 2
                · rw [hj, ← hq'.out]
                · exact HE.out j h0 (by omega)
              · rw [lAt_far (i' := 3) (i := 2) (j := 0) rfl (by decide)]; rw [lAt_far (i' := 3) (i := 2) (j := 1) rfl (by decide)]; rw [lAt_far (i' := 3) (i := 2) (j := 3) rfl (by decide)]; rw [lAt_at (i' := 3) hq'.out rfl hm]
                exact blk_put (cs := #[.int .i64 (lAt F 2 0), .int .i64 (lAt F 2 1), .int .i64 (lAt F 2 2), .int .i64 (lAt F 2 3)]) (blk_drewN BK.out _) 2 _ rfl
          · have c6b := decide_eq_false c6
            have hm : mx q (wrap64 (-q)) = q := by unfold mx; rw [if_neg c6]
            go_wp2_with (first | ((with_reducible refine gate_callee (f := 11) rfl ?_); refine goesL_ (some 24) rfl rfl Try.func11 (by kernel_rfl) rfl #[.int .i64 a, .int .i64 b, .int .i64 c, .int .i64 2] rfl (by (try simp only [List.map_toArray, List.map_cons, List.map_nil]); first | done | rfl | (simp only [List.length_drop, List.length_take]; rfl)) ?_; (with_reducible refine (wide_MulDiv.calls k a b c 2 q 0 _ A.out).mono ?_); rintro e' w' ⟨rfl, ⟨nd, rfl⟩⟩; refine ⟨_, rfl, ?_⟩))
            go_roundg k1
            case measure => omega
            case rel =>
              refine ⟨3, rfl, ⟨by omega, by omega, by omega⟩, ⟨fun j h0 h1 => ?_⟩, ⟨?_⟩, ⟨by repeat (first | (with_reducible first | exact HB.out | apply below_alloc | apply pw_below_drewN | apply below_drew1 | refine below_set ?_ GE.out) | exact HB.out)⟩⟩
              · by_cases hj : j = 2
                · rw [hj, ← hq'.out]
                · exact HE.out j h0 (by omega)
              · rw [lAt_far (i' := 3) (i := 2) (j := 0) rfl (by decide)]; rw [lAt_far (i' := 3) (i := 2) (j := 1) rfl (by decide)]; rw [lAt_far (i' := 3) (i := 2) (j := 3) rfl (by decide)]; rw [lAt_at (i' := 3) hq'.out rfl hm]
                exact blk_put (cs := #[.int .i64 (lAt F 2 0), .int .i64 (lAt F 2 1), .int .i64 (lAt F 2 2), .int .i64 (lAt F 2 3)]) (blk_drewN BK.out _) 2 _ rfl
        · by_cases c6 : q < wrap64 (-q)
          · have c6b := decide_eq_true c6
            have hm : mx q (wrap64 (-q)) = wrap64 (-q) := by unfold mx; rw [if_pos c6]
            go_wp2_with (first | ((with_reducible refine gate_callee (f := 11) rfl ?_); refine goesL_ (some 24) rfl rfl Try.func11 (by kernel_rfl) rfl #[.int .i64 a, .int .i64 b, .int .i64 c, .int .i64 3] rfl (by (try simp only [List.map_toArray, List.map_cons, List.map_nil]); first | done | rfl | (simp only [List.length_drop, List.length_take]; rfl)) ?_; (with_reducible refine (wide_MulDiv.calls k a b c 3 q 0 _ A.out).mono ?_); rintro e' w' ⟨rfl, ⟨nd, rfl⟩⟩; refine ⟨_, rfl, ?_⟩))
            go_roundg k1
            case measure => omega
            case rel =>
              refine ⟨4, rfl, ⟨by omega, by omega, by omega⟩, ⟨fun j h0 h1 => ?_⟩, ⟨?_⟩, ⟨by repeat (first | (with_reducible first | exact HB.out | apply below_alloc | apply pw_below_drewN | apply below_drew1 | refine below_set ?_ GE.out) | exact HB.out)⟩⟩
              · by_cases hj : j = 3
                · rw [hj, ← hq'.out]
                · exact HE.out j h0 (by omega)
              · rw [lAt_far (i' := 4) (i := 3) (j := 0) rfl (by decide)]; rw [lAt_far (i' := 4) (i := 3) (j := 1) rfl (by decide)]; rw [lAt_far (i' := 4) (i := 3) (j := 2) rfl (by decide)]; rw [lAt_at (i' := 4) hq'.out rfl hm]
                exact blk_put (cs := #[.int .i64 (lAt F 3 0), .int .i64 (lAt F 3 1), .int .i64 (lAt F 3 2), .int .i64 (lAt F 3 3)]) (blk_drewN BK.out _) 3 _ rfl
          · have c6b := decide_eq_false c6
            have hm : mx q (wrap64 (-q)) = q := by unfold mx; rw [if_neg c6]
            go_wp2_with (first | ((with_reducible refine gate_callee (f := 11) rfl ?_); refine goesL_ (some 24) rfl rfl Try.func11 (by kernel_rfl) rfl #[.int .i64 a, .int .i64 b, .int .i64 c, .int .i64 3] rfl (by (try simp only [List.map_toArray, List.map_cons, List.map_nil]); first | done | rfl | (simp only [List.length_drop, List.length_take]; rfl)) ?_; (with_reducible refine (wide_MulDiv.calls k a b c 3 q 0 _ A.out).mono ?_); rintro e' w' ⟨rfl, ⟨nd, rfl⟩⟩; refine ⟨_, rfl, ?_⟩))
            go_roundg k1
            case measure => omega
            case rel =>
              refine ⟨4, rfl, ⟨by omega, by omega, by omega⟩, ⟨fun j h0 h1 => ?_⟩, ⟨?_⟩, ⟨by repeat (first | (with_reducible first | exact HB.out | apply below_alloc | apply pw_below_drewN | apply below_drew1 | refine below_set ?_ GE.out) | exact HB.out)⟩⟩
              · by_cases hj : j = 3
                · rw [hj, ← hq'.out]
                · exact HE.out j h0 (by omega)
              · rw [lAt_far (i' := 4) (i := 3) (j := 0) rfl (by decide)]; rw [lAt_far (i' := 4) (i := 3) (j := 1) rfl (by decide)]; rw [lAt_far (i' := 4) (i := 3) (j := 2) rfl (by decide)]; rw [lAt_at (i' := 4) hq'.out rfl hm]
                exact blk_put (cs := #[.int .i64 (lAt F 3 0), .int .i64 (lAt F 3 1), .int .i64 (lAt F 3 2), .int .i64 (lAt F 3 3)]) (blk_drewN BK.out _) 3 _ rfl
      · have c5b0 : (e == 0) = false := beq_eq_false_iff_ne.mpr c5
        have c5b1 : (e != 0) = true := bne_iff_ne.mpr c5
        obtain ⟨b0, b1⟩ := hbad i i0 c4 (fun j h0 h1 => HE.out j h0 h1) (by rw [← hq'.out]; exact c5)
        rw [← hq'.out] at b0 b1
        simp only at b0 b1
        subst b0
        rcases h4 with rfl | rfl | rfl | rfl
        · have b2 : e ≠ 1 := by omega
          have b2b0 : (e != 1) = true := bne_iff_ne.mpr b2
          go_wp2_with (first | ((with_reducible refine gate_callee (f := 11) rfl ?_); refine goesL_ (some 24) rfl rfl Try.func11 (by kernel_rfl) rfl #[.int .i64 a, .int .i64 b, .int .i64 c, .int .i64 0] rfl (by (try simp only [List.map_toArray, List.map_cons, List.map_nil]); first | done | rfl | (simp only [List.length_drop, List.length_take]; rfl)) ?_; (with_reducible refine (wide_MulDiv.calls k a b c 0 0 e _ A.out).mono ?_); rintro e' w' ⟨rfl, ⟨nd, rfl⟩⟩; refine ⟨_, rfl, ?_⟩) | (go_at_call 14; (with_reducible refine (paymasterlaw02_awake.calls k true _ aw).mono ?_); rintro e w' ⟨rfl, ⟨nd, rfl⟩⟩))
          go_ret
          exact ⟨by first | rfl | (simp; done) | (simp [*]; done), by repeat (first | (with_reducible first | exact HB.out | apply below_alloc | apply pw_below_drewN | apply below_drew1 | refine below_set ?_ GE.out) | exact HB.out)⟩
        · go_wp2_with (first | ((with_reducible refine gate_callee (f := 11) rfl ?_); refine goesL_ (some 24) rfl rfl Try.func11 (by kernel_rfl) rfl #[.int .i64 a, .int .i64 b, .int .i64 c, .int .i64 1] rfl (by (try simp only [List.map_toArray, List.map_cons, List.map_nil]); first | done | rfl | (simp only [List.length_drop, List.length_take]; rfl)) ?_; (with_reducible refine (wide_MulDiv.calls k a b c 1 0 e _ A.out).mono ?_); rintro e' w' ⟨rfl, ⟨nd, rfl⟩⟩; refine ⟨_, rfl, ?_⟩) | (go_at_call 14; (with_reducible refine (paymasterlaw02_awake.calls k true _ aw).mono ?_); rintro e w' ⟨rfl, ⟨nd, rfl⟩⟩))
          go_ret
          exact ⟨by first | rfl | (simp; done) | (simp [*]; done), by repeat (first | (with_reducible first | exact HB.out | apply below_alloc | apply pw_below_drewN | apply below_drew1 | refine below_set ?_ GE.out) | exact HB.out)⟩
        · go_wp2_with (first | ((with_reducible refine gate_callee (f := 11) rfl ?_); refine goesL_ (some 24) rfl rfl Try.func11 (by kernel_rfl) rfl #[.int .i64 a, .int .i64 b, .int .i64 c, .int .i64 2] rfl (by (try simp only [List.map_toArray, List.map_cons, List.map_nil]); first | done | rfl | (simp only [List.length_drop, List.length_take]; rfl)) ?_; (with_reducible refine (wide_MulDiv.calls k a b c 2 0 e _ A.out).mono ?_); rintro e' w' ⟨rfl, ⟨nd, rfl⟩⟩; refine ⟨_, rfl, ?_⟩) | (go_at_call 14; (with_reducible refine (paymasterlaw02_awake.calls k true _ aw).mono ?_); rintro e w' ⟨rfl, ⟨nd, rfl⟩⟩))
          go_ret
          exact ⟨by first | rfl | (simp; done) | (simp [*]; done), by repeat (first | (with_reducible first | exact HB.out | apply below_alloc | apply pw_below_drewN | apply below_drew1 | refine below_set ?_ GE.out) | exact HB.out)⟩
        · go_wp2_with (first | ((with_reducible refine gate_callee (f := 11) rfl ?_); refine goesL_ (some 24) rfl rfl Try.func11 (by kernel_rfl) rfl #[.int .i64 a, .int .i64 b, .int .i64 c, .int .i64 3] rfl (by (try simp only [List.map_toArray, List.map_cons, List.map_nil]); first | done | rfl | (simp only [List.length_drop, List.length_take]; rfl)) ?_; (with_reducible refine (wide_MulDiv.calls k a b c 3 0 e _ A.out).mono ?_); rintro e' w' ⟨rfl, ⟨nd, rfl⟩⟩; refine ⟨_, rfl, ?_⟩) | (go_at_call 14; (with_reducible refine (paymasterlaw02_awake.calls k true _ aw).mono ?_); rintro e w' ⟨rfl, ⟨nd, rfl⟩⟩))
          go_ret
          exact ⟨by first | rfl | (simp; done) | (simp [*]; done), by repeat (first | (with_reducible first | exact HB.out | apply below_alloc | apply pw_below_drewN | apply below_drew1 | refine below_set ?_ GE.out) | exact HB.out)⟩
    · have c4b : decide (i < 4) = false := decide_eq_false c4
      obtain rfl : i = 4 := by omega
      obtain ⟨g1, g2, g3, g4⟩ := hok (fun j h0 h1 => HE.out j h0 h1)
      have g1' := Aside0.mk g1
      have g2' := Aside0.mk g2
      have g3' := Aside0.mk g3
      have g4' := Aside0.mk g4
      clear g1 g2 g3 g4 hok hbad
      go_wp2
      go_loopg [50] 5 (fun kq v50 w' => ∃ (i : Int), v50 = .int .i64 i ∧ Aside0 (0 ≤ i ∧ i ≤ 4 ∧ (kq : Int) = 5 - i) ∧ Aside0 (w'.heap[gb]? = some (.cells #[.int .i64 (lAt F 4 0), .int .i64 (lAt F 4 1), .int .i64 (lAt F 4 2), .int .i64 (lAt F 4 3)] 37 (0, 0))) ∧ Aside0 (Below w.heap.size w w'))
      case atStart => exact ⟨0, rfl, ⟨by omega, by omega, by omega⟩, BK, ⟨by repeat (first | (with_reducible first | exact HB.out | apply below_alloc | apply pw_below_drewN | apply below_drew1 | refine below_set ?_ GE.out) | exact HB.out)⟩⟩
      case round =>
        clear hcz0 hcz1 hcz2 hcz3 hfz0 hfz1 hfz2 hfz3 HI BK HB
        obtain ⟨i, rfl, HI, BK, HB⟩ := hrel
        obtain ⟨i0, i4, ik⟩ := HI.out
        have hcz0 : wr.cell? ⟨gb, 0, none⟩ = some (.int .i64 (lAt F 4 0)) := (blk_cell BK.out 0).trans rfl
        have hfz0 := blk_frozen BK.out 0
        have hcz1 : wr.cell? ⟨gb, 1, none⟩ = some (.int .i64 (lAt F 4 1)) := (blk_cell BK.out 1).trans rfl
        have hfz1 := blk_frozen BK.out 1
        have hcz2 : wr.cell? ⟨gb, 2, none⟩ = some (.int .i64 (lAt F 4 2)) := (blk_cell BK.out 2).trans rfl
        have hfz2 := blk_frozen BK.out 2
        have hcz3 : wr.cell? ⟨gb, 3, none⟩ = some (.int .i64 (lAt F 4 3)) := (blk_cell BK.out 3).trans rfl
        have hfz3 := blk_frozen BK.out 3
        obtain ⟨k1, rfl⟩ : ∃ m, gk = m + 1 := ⟨gk - 1, by omega⟩
        have ix0 : ∀ w : World, (Instr.index 37 (.agg #[.int .i64 (lAt F 4 0), .int .i64 (lAt F 4 1), .int .i64 (lAt F 4 2), .int .i64 (lAt F 4 3)]) (.int .i64 0)).run Try.prog w = .ok (.int .i64 (lAt F 4 0)) w := fun _ => by kernel_rfl
        have ix1 : ∀ w : World, (Instr.index 37 (.agg #[.int .i64 (lAt F 4 0), .int .i64 (lAt F 4 1), .int .i64 (lAt F 4 2), .int .i64 (lAt F 4 3)]) (.int .i64 1)).run Try.prog w = .ok (.int .i64 (lAt F 4 1)) w := fun _ => by kernel_rfl
        have ix2 : ∀ w : World, (Instr.index 37 (.agg #[.int .i64 (lAt F 4 0), .int .i64 (lAt F 4 1), .int .i64 (lAt F 4 2), .int .i64 (lAt F 4 3)]) (.int .i64 2)).run Try.prog w = .ok (.int .i64 (lAt F 4 2)) w := fun _ => by kernel_rfl
        have ix3 : ∀ w : World, (Instr.index 37 (.agg #[.int .i64 (lAt F 4 0), .int .i64 (lAt F 4 1), .int .i64 (lAt F 4 2), .int .i64 (lAt F 4 3)]) (.int .i64 3)).run Try.prog w = .ok (.int .i64 (lAt F 4 3)) w := fun _ => by kernel_rfl
        by_cases c7 : i < 4
        · have h4 : i = 0 ∨ i = 1 ∨ i = 2 ∨ i = 3 := by omega
          obtain ⟨lo, hi⟩ := g1'.out i i0 c7
          rcases h4 with rfl | rfl | rfl | rfl
          · have lob := decide_eq_false (Int.not_lt.2 lo)
            have hib := decide_eq_false (Int.not_lt.2 hi)
            go_wp2
            go_roundg k1
            case measure => omega
            case rel => exact ⟨1, rfl, ⟨by omega, by omega, by omega⟩, BK, HB⟩
          · have lob := decide_eq_false (Int.not_lt.2 lo)
            have hib := decide_eq_false (Int.not_lt.2 hi)
            go_wp2
            go_roundg k1
            case measure => omega
            case rel => exact ⟨2, rfl, ⟨by omega, by omega, by omega⟩, BK, HB⟩
          · have lob := decide_eq_false (Int.not_lt.2 lo)
            have hib := decide_eq_false (Int.not_lt.2 hi)
            go_wp2
            go_roundg k1
            case measure => omega
            case rel => exact ⟨3, rfl, ⟨by omega, by omega, by omega⟩, BK, HB⟩
          · have lob := decide_eq_false (Int.not_lt.2 lo)
            have hib := decide_eq_false (Int.not_lt.2 hi)
            go_wp2
            go_roundg k1
            case measure => omega
            case rel => exact ⟨4, rfl, ⟨by omega, by omega, by omega⟩, BK, HB⟩
        · have c7b : decide (i < 4) = false := decide_eq_false c7
          obtain rfl : i = 4 := by omega
          have g2b := decide_eq_true g2'.out
          have g4b : ((lAt F 4 0 == lAt F 4 1) == (t == 0)) = true := by rw [g4'.out]; simp
          go_wp2_with (first | ((with_reducible refine gate_callee (f := 11) rfl ?_); refine goesL_ (some 68) rfl rfl Try.func11 (by kernel_rfl) rfl #[.int .i64 a, .int .i64 b, .int .i64 c, .int .i64 0] rfl (by (try simp only [List.map_toArray, List.map_cons, List.map_nil]); first | done | rfl | (simp only [List.length_drop, List.length_take]; rfl)) ?_; (with_reducible refine (wide_MulDiv.calls k a b c 0 (F 0).1 (F 0).2 _ (hF 0 (by omega) (by omega))).mono ?_); rintro e' w' ⟨rfl, ⟨nd, rfl⟩⟩; refine ⟨_, rfl, ?_⟩) | ((with_reducible refine gate_callee (f := 17) rfl ?_); refine goesL_ (some 75) rfl rfl Try.func17 (by kernel_rfl) rfl #[.int .i64 a, .int .i64 b, .int .i64 (F 0).1, .int .i64 c] rfl (by (try simp only [List.map_toArray, List.map_cons, List.map_nil]); first | done | rfl | (simp only [List.length_drop, List.length_take]; rfl)) ?_; (with_reducible refine (wide_Cmp.calls k a b (F 0).1 c t _ g3'.out).mono ?_); rintro e' w' ⟨rfl, ⟨nd, rfl⟩⟩; refine ⟨_, rfl, ?_⟩) | (go_at_call 14; (with_reducible refine (paymasterlaw02_awake.calls k true _ aw).mono ?_); rintro e w' ⟨rfl, ⟨nd, rfl⟩⟩))
          go_ret
          exact ⟨by first | rfl | (simp; done) | (simp [*]; done), by repeat (first | (with_reducible first | exact HB.out | apply below_alloc | apply pw_below_drewN | apply below_drew1 | refine below_set ?_ GE.out) | exact HB.out)⟩
end Go.Proofs.Ytdochofgoobicaa.PA
