/- Contracts of the functions of the given program: written by wip/pmprint.py, a program of this session, which runs the print of the kit over altered functions. -/
import Derived.Test.YtdochofgoobicaaPAx0
import Derived.Test.YtdochofgoobicaaPAx2
import Derived.Test.YtdochofgoobicaaPAx6
namespace Go.Proofs.Ytdochofgoobicaa.PA
open Go.RowKit Go.Proofs.YtdochofgoobicaaW.PrintWords Go.Proofs.YtdochofgoobicaaW.PrintLast Go.Proofs.YtdochofgoobicaaW.PrintMore
attribute [local go_sem] max2_int min2_int max_two min_two max_three min_three max_four min_four   -- for this text's walks alone
set_option linter.unusedVariables false
set_option linter.unusedSimpArgs false

/-! ### paymasterlaw02_WideAdd: function 10 -/
def paymasterlaw02_WideAdd.f (k : Nat) (a0 : Int) (a1 : Int) (a2 : Int) : Option (Bool) := (wide_MulDiv.f k (wrap64 (a0 / 16)) 1 (wrap64 (1 + (wrap64 (a2 / 16)))) 0).bind fun bt319 => ((wide_MulDiv.f k (wrap64 (a1 / 16)) 1 (wrap64 (1 + (wrap64 (a2 / 16)))) 0).bind fun bt321 => ((wide_MulDiv.f k (wrap64 ((wrap64 (a0 / 16)) + (wrap64 (a1 / 16)))) 1 (wrap64 (1 + (wrap64 (a2 / 16)))) 0).bind fun bt323 => (if bt319.2 = 0 then (if bt321.2 = 0 then (if bt323.2 = 0 then (if (wrap64 (1 + (wrap64 (a2 / 16)))) = 0 then (none) else (if bt319.1 = (wrap64 (Int.tdiv (wrap64 (a0 / 16)) (wrap64 (1 + (wrap64 (a2 / 16)))))) then (if (wrap64 (bt319.1 + bt321.1)) ≤ bt323.1 then (if (wrap64 ((wrap64 (bt323.1 - bt319.1)) - bt321.1)) ≤ 1 then ((paymasterlaw02_awake.f k).bind fun t325 => (some t325)) else (none)) else (none)) else (none))) else (none)) else (none)) else (none))))
theorem paymasterlaw02_WideAdd.mono : ∀ a0 a1 a2 k, LeO (paymasterlaw02_WideAdd.f k a0 a1 a2) (paymasterlaw02_WideAdd.f (k + 1) a0 a1 a2) := by
  intro a0 a1 a2 k
  unfold paymasterlaw02_WideAdd.f
  repeat' first
      | (with_reducible exact paymasterlaw02_awake.mono _)
      | (with_reducible exact wide_MulDiv.mono _ _ _ _ _)
      | (with_reducible exact LeO.refl _)
      | (with_reducible exact LeO.none _)
      | (with_reducible refine LeO.ite ?_ ?_)
      | (with_reducible refine LeO.bind ?_ (fun _ => ?_))
      | exact paymasterlaw02_awake.mono _
      | exact wide_MulDiv.mono _ _ _ _ _
      | exact LeO.none _
      | refine LeO.ite ?_ ?_
      | refine LeO.bind ?_ (fun _ => ?_)
set_option maxHeartbeats 8000000 in
set_option maxRecDepth 100000 in
theorem paymasterlaw02_WideAdd.calls (k : Nat) (a0 : Int) (a1 : Int) (a2 : Int) (r : Bool) (w : World) (h : paymasterlaw02_WideAdd.f k a0 a1 a2 = some r) :
    Calls Try.prog 10 #[.int .u64 a0, .int .u64 a1, .int .u64 a2] w fun e w' => e = .returned (.bool r) ∧ Drawn0 w w' := by
  have H : ((wide_MulDiv.f k (wrap64 (a0 / 16)) 1 (wrap64 (1 + (wrap64 (a2 / 16)))) 0).bind fun bt319 => ((wide_MulDiv.f k (wrap64 (a1 / 16)) 1 (wrap64 (1 + (wrap64 (a2 / 16)))) 0).bind fun bt321 => ((wide_MulDiv.f k (wrap64 ((wrap64 (a0 / 16)) + (wrap64 (a1 / 16)))) 1 (wrap64 (1 + (wrap64 (a2 / 16)))) 0).bind fun bt323 => (if bt319.2 = 0 then (if bt321.2 = 0 then (if bt323.2 = 0 then (if (wrap64 (1 + (wrap64 (a2 / 16)))) = 0 then (none) else (if bt319.1 = (wrap64 (Int.tdiv (wrap64 (a0 / 16)) (wrap64 (1 + (wrap64 (a2 / 16)))))) then (if (wrap64 (bt319.1 + bt321.1)) ≤ bt323.1 then (if (wrap64 ((wrap64 (bt323.1 - bt319.1)) - bt321.1)) ≤ 1 then ((paymasterlaw02_awake.f k).bind fun t325 => (some t325)) else (none)) else (none)) else (none))) else (none)) else (none)) else (none))))) = some r := h
  clear h
  replace H := Option.bind_eq_some_iff.mp H
  obtain ⟨⟨t319, t320⟩, A40, H⟩ := H
  replace H : ((wide_MulDiv.f k (wrap64 (a1 / 16)) 1 (wrap64 (1 + (wrap64 (a2 / 16)))) 0).bind fun bt321 => ((wide_MulDiv.f k (wrap64 ((wrap64 (a0 / 16)) + (wrap64 (a1 / 16)))) 1 (wrap64 (1 + (wrap64 (a2 / 16)))) 0).bind fun bt323 => (if t320 = 0 then (if bt321.2 = 0 then (if bt323.2 = 0 then (if (wrap64 (1 + (wrap64 (a2 / 16)))) = 0 then (none) else (if t319 = (wrap64 (Int.tdiv (wrap64 (a0 / 16)) (wrap64 (1 + (wrap64 (a2 / 16)))))) then (if (wrap64 (t319 + bt321.1)) ≤ bt323.1 then (if (wrap64 ((wrap64 (bt323.1 - t319)) - bt321.1)) ≤ 1 then ((paymasterlaw02_awake.f k).bind fun t325 => (some t325)) else (none)) else (none)) else (none))) else (none)) else (none)) else (none)))) = some r := H
  have A4 := Aside0.mk A40
  clear A40
  replace H := Option.bind_eq_some_iff.mp H
  obtain ⟨⟨t321, t322⟩, A50, H⟩ := H
  replace H : ((wide_MulDiv.f k (wrap64 ((wrap64 (a0 / 16)) + (wrap64 (a1 / 16)))) 1 (wrap64 (1 + (wrap64 (a2 / 16)))) 0).bind fun bt323 => (if t320 = 0 then (if t322 = 0 then (if bt323.2 = 0 then (if (wrap64 (1 + (wrap64 (a2 / 16)))) = 0 then (none) else (if t319 = (wrap64 (Int.tdiv (wrap64 (a0 / 16)) (wrap64 (1 + (wrap64 (a2 / 16)))))) then (if (wrap64 (t319 + t321)) ≤ bt323.1 then (if (wrap64 ((wrap64 (bt323.1 - t319)) - t321)) ≤ 1 then ((paymasterlaw02_awake.f k).bind fun t325 => (some t325)) else (none)) else (none)) else (none))) else (none)) else (none)) else (none))) = some r := H
  have A5 := Aside0.mk A50
  clear A50
  replace H := Option.bind_eq_some_iff.mp H
  obtain ⟨⟨t323, t324⟩, A60, H⟩ := H
  replace H : (if t320 = 0 then (if t322 = 0 then (if t324 = 0 then (if (wrap64 (1 + (wrap64 (a2 / 16)))) = 0 then (none) else (if t319 = (wrap64 (Int.tdiv (wrap64 (a0 / 16)) (wrap64 (1 + (wrap64 (a2 / 16)))))) then (if (wrap64 (t319 + t321)) ≤ t323 then (if (wrap64 ((wrap64 (t323 - t319)) - t321)) ≤ 1 then ((paymasterlaw02_awake.f k).bind fun t325 => (some t325)) else (none)) else (none)) else (none))) else (none)) else (none)) else (none)) = some r := H
  have A6 := Aside0.mk A60
  clear A60
  by_cases c7 : t320 = 0
  · rw [if_pos c7] at H
    have c7b0 : (t320 == 0) = true := beq_iff_eq.mpr c7
    have c7b1 : (t320 != 0) = false := bne_eq_false_iff_eq.mpr c7
    clear c7
    by_cases c8 : t322 = 0
    · rw [if_pos c8] at H
      have c8b0 : (t322 == 0) = true := beq_iff_eq.mpr c8
      have c8b1 : (t322 != 0) = false := bne_eq_false_iff_eq.mpr c8
      clear c8
      by_cases c9 : t324 = 0
      · rw [if_pos c9] at H
        have c9b0 : (t324 == 0) = true := beq_iff_eq.mpr c9
        have c9b1 : (t324 != 0) = false := bne_eq_false_iff_eq.mpr c9
        clear c9
        by_cases c10 : (wrap64 (1 + (wrap64 (a2 / 16)))) = 0
        · rw [if_pos c10] at H
          exact absurd H (by simp)
        · rw [if_neg c10] at H
          have c10b0 : ((wrap64 (1 + (wrap64 (a2 / 16)))) == 0) = false := beq_eq_false_iff_ne.mpr c10
          have c10b1 : ((wrap64 (1 + (wrap64 (a2 / 16)))) != 0) = true := bne_iff_ne.mpr c10
          by_cases c11 : t319 = (wrap64 (Int.tdiv (wrap64 (a0 / 16)) (wrap64 (1 + (wrap64 (a2 / 16))))))
          · rw [if_pos c11] at H
            have c11b0 : (t319 == (wrap64 (Int.tdiv (wrap64 (a0 / 16)) (wrap64 (1 + (wrap64 (a2 / 16))))))) = true := beq_iff_eq.mpr c11
            have c11b1 : (t319 != (wrap64 (Int.tdiv (wrap64 (a0 / 16)) (wrap64 (1 + (wrap64 (a2 / 16))))))) = false := bne_eq_false_iff_eq.mpr c11
            clear c11
            by_cases c12 : (wrap64 (t319 + t321)) ≤ t323
            · rw [if_pos c12] at H
              have c12b0 : decide ((wrap64 (t319 + t321)) ≤ t323) = true := decide_eq_true c12
              clear c12
              by_cases c13 : (wrap64 ((wrap64 (t323 - t319)) - t321)) ≤ 1
              · rw [if_pos c13] at H
                have c13b0 : decide ((wrap64 ((wrap64 (t323 - t319)) - t321)) ≤ 1) = true := decide_eq_true c13
                clear c13
                replace H := Option.bind_eq_some_iff.mp H
                obtain ⟨t325, A140, H⟩ := H
                replace H : (some t325) = some r := H
                have A14 := Aside0.mk A140
                clear A140
                obtain rfl := Option.some.inj H
                go_enter Try.func10, Try.ntmps10
                go_wp2_with (first | ((with_reducible refine gate_callee (f := 11) rfl ?_); refine goesL_ (some 29) rfl rfl Try.func11 (by kernel_rfl) rfl #[.int .i64 (wrap64 (a0 / 16)), .int .i64 1, .int .i64 (wrap64 (1 + (wrap64 (a2 / 16)))), .int .i64 0] rfl (by (try simp only [List.map_toArray, List.map_cons, List.map_nil]); first | done | rfl | (simp only [List.length_drop, List.length_take]; rfl)) ?_; (with_reducible refine (wide_MulDiv.calls k (wrap64 (a0 / 16)) 1 (wrap64 (1 + (wrap64 (a2 / 16)))) 0 t319 t320 _ A4.out).mono ?_); rintro e w' ⟨rfl, ⟨nd, rfl⟩⟩; refine ⟨_, rfl, ?_⟩) | ((with_reducible refine gate_callee (f := 11) rfl ?_); refine goesL_ (some 35) rfl rfl Try.func11 (by kernel_rfl) rfl #[.int .i64 (wrap64 (a1 / 16)), .int .i64 1, .int .i64 (wrap64 (1 + (wrap64 (a2 / 16)))), .int .i64 0] rfl (by (try simp only [List.map_toArray, List.map_cons, List.map_nil]); first | done | rfl | (simp only [List.length_drop, List.length_take]; rfl)) ?_; (with_reducible refine (wide_MulDiv.calls k (wrap64 (a1 / 16)) 1 (wrap64 (1 + (wrap64 (a2 / 16)))) 0 t321 t322 _ A5.out).mono ?_); rintro e w' ⟨rfl, ⟨nd, rfl⟩⟩; refine ⟨_, rfl, ?_⟩) | ((with_reducible refine gate_callee (f := 11) rfl ?_); refine goesL_ (some 43) rfl rfl Try.func11 (by kernel_rfl) rfl #[.int .i64 (wrap64 ((wrap64 (a0 / 16)) + (wrap64 (a1 / 16)))), .int .i64 1, .int .i64 (wrap64 (1 + (wrap64 (a2 / 16)))), .int .i64 0] rfl (by (try simp only [List.map_toArray, List.map_cons, List.map_nil]); first | done | rfl | (simp only [List.length_drop, List.length_take]; rfl)) ?_; (with_reducible refine (wide_MulDiv.calls k (wrap64 ((wrap64 (a0 / 16)) + (wrap64 (a1 / 16)))) 1 (wrap64 (1 + (wrap64 (a2 / 16)))) 0 t323 t324 _ A6.out).mono ?_); rintro e w' ⟨rfl, ⟨nd, rfl⟩⟩; refine ⟨_, rfl, ?_⟩) | (go_at_call 14; (with_reducible refine (paymasterlaw02_awake.calls k  t325 _ A14.out).mono ?_); rintro e w' ⟨rfl, ⟨nd, rfl⟩⟩))
                go_ret
                exact ⟨by first | rfl | (simp; done) | (simp [*]; done), by repeat (first | exact Drawn0.refl _ | apply Drawn0.step)⟩
              · rw [if_neg c13] at H
                exact absurd H (by simp)
            · rw [if_neg c12] at H
              exact absurd H (by simp)
          · rw [if_neg c11] at H
            exact absurd H (by simp)
      · rw [if_neg c9] at H
        exact absurd H (by simp)
    · rw [if_neg c8] at H
      exact absurd H (by simp)
  · rw [if_neg c7] at H
    exact absurd H (by simp)

/-- THE ONE PURE STATEMENT of paymasterlaw02_WideAdd: yours. -/
def paymasterlaw02_WideAdd.Pure : Prop := ∀ (a0 : Int) (a1 : Int) (a2 : Int), (Lit.int .u64 a0).wf = true → (Lit.int .u64 a1).wf = true → (Lit.int .u64 a2).wf = true → ∃ k, paymasterlaw02_WideAdd.f k a0 a1 a2 = some true
theorem paymasterlaw02_WideAdd.walk (P : paymasterlaw02_WideAdd.Pure) (a0 : Int) (a1 : Int) (a2 : Int) (w : World) (w0 : (Lit.int .u64 a0).wf = true) (w1 : (Lit.int .u64 a1).wf = true) (w2 : (Lit.int .u64 a2).wf = true) :
    Calls Try.prog 10 #[.int .u64 a0, .int .u64 a1, .int .u64 a2] w fun e w' => e = .returned (.bool true) ∧ Below w.heap.size w w' := by
  obtain ⟨k, h⟩ := P a0 a1 a2 w0 w1 w2
  refine (paymasterlaw02_WideAdd.calls k a0 a1 a2 true w h).mono ?_
  rintro e w' ⟨rfl, hd⟩
  exact ⟨rfl, hd.below⟩

end Go.Proofs.Ytdochofgoobicaa.PA
