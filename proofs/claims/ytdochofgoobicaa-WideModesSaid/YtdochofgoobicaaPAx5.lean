/- Contracts of the functions of the given program: written by wip/pmprint.py, a program of this session, which runs the print of the kit over altered functions. -/
import Derived.Test.YtdochofgoobicaaPAx0
import Derived.Test.YtdochofgoobicaaPAx2
import Derived.Test.YtdochofgoobicaaPAx3
import Derived.Test.YtdochofgoobicaaPAx4
namespace Go.Proofs.Ytdochofgoobicaa.PA
open Go.RowKit Go.Proofs.YtdochofgoobicaaW.PrintWords Go.Proofs.YtdochofgoobicaaW.PrintLast Go.Proofs.YtdochofgoobicaaW.PrintMore
attribute [local go_sem] max2_int min2_int max_two min_two max_three min_three max_four min_four   -- for this text's walks alone
set_option linter.unusedVariables false
set_option linter.unusedSimpArgs false

/-! ### paymasterref02_MulDiv: function 13 -/
mutual
def paymasterref02_MulDiv.l0 : Nat → Int → List Int → List Int → Int → Bool → List Int → Bool → List Int → Option (Int × Bool)
  | 0, _, _, _, _, _, _, _, _ => none
  | k + 1, x3, x12, x13, x14, x192000, x192001, x193000, x193001 => if x14 ≥ 0 then (if 0 ≤ x14 then (if x14 < (x192001.length : Int) then (if ([] : List Int).length < 17592186044416 then ((some (([] : List Int) ++ [rd x192001 x14] : List Int)).bind fun y194 => (if y194.length + x12.length < 17592186044416 then ((paymasterref02_trim.f k (y194 ++ x12)).bind fun t200 => (paymasterref02_MulDiv.l1 k x3 t200 x13 x14 0 x192000 x192001 x193000 x193001)) else (none))) else (none)) else (none)) else (none)) else (if (x13.length : Int) > 0 then (if 0 ≤ (wrap64 ((x13.length : Int) - 1)) then (if (wrap64 ((x13.length : Int) - 1)) < (x13.length : Int) then (paymasterref02_MulDiv.j2 k x3 x12 x13 ((Int.tmod (rd x13 (wrap64 ((x13.length : Int) - 1))) 2) == 1) x192000 x192001 x193000 x193001) else (none)) else (none)) else (paymasterref02_MulDiv.j2 k x3 x12 x13 false x192000 x192001 x193000 x193001))
def paymasterref02_MulDiv.l1 : Nat → Int → List Int → List Int → Int → Int → Bool → List Int → Bool → List Int → Option (Int × Bool)
  | 0, _, _, _, _, _, _, _, _, _ => none
  | k + 1, x3, x12, x13, x14, x16, x192000, x192001, x193000, x193001 => (paymasterref02_size.f k x12 x193001).bind fun t203 => (if t203 ≥ 0 then ((paymasterref02_less.f k x12 x193001).bind fun t204 => (paymasterref02_MulDiv.l1 k x3 t204 x13 x14 (wrap64 (x16 + 1)) x192000 x192001 x193000 x193001)) else (if x13.length < 17592186044416 then (paymasterref02_MulDiv.l0 k x3 x12 (x13 ++ [x16]) (wrap64 (x14 - 1)) x192000 x192001 x193000 x193001) else (none)))
def paymasterref02_MulDiv.j2 : Nat → Int → List Int → List Int → Bool → Bool → List Int → Bool → List Int → Option (Int × Bool)
  | 0, _, _, _, _, _, _, _, _ => none
  | k + 1, x3, x12, x13, x17, x192000, x192001, x193000, x193001 => (paymasterref02_double.f k x12).bind fun t211 => ((paymasterref02_size.f k t211 x193001).bind fun t214 => (if x3 = 1 then (if (x12.length : Int) > 0 then (paymasterref02_MulDiv.j3 k x13 true x192000 x192001 x193000 x193001) else (if x3 > 1 then (if t214 > 0 then (paymasterref02_MulDiv.j3 k x13 true x192000 x192001 x193000 x193001) else (if t214 = 0 then (if x3 = 2 then (paymasterref02_MulDiv.j3 k x13 true x192000 x192001 x193000 x193001) else (if x3 = 3 then (paymasterref02_MulDiv.j3 k x13 x17 x192000 x192001 x193000 x193001) else (paymasterref02_MulDiv.j3 k x13 false x192000 x192001 x193000 x193001))) else (paymasterref02_MulDiv.j3 k x13 false x192000 x192001 x193000 x193001))) else (if t214 = 0 then (if x3 = 2 then (paymasterref02_MulDiv.j3 k x13 true x192000 x192001 x193000 x193001) else (if x3 = 3 then (paymasterref02_MulDiv.j3 k x13 x17 x192000 x192001 x193000 x193001) else (paymasterref02_MulDiv.j3 k x13 false x192000 x192001 x193000 x193001))) else (paymasterref02_MulDiv.j3 k x13 false x192000 x192001 x193000 x193001)))) else (if x3 > 1 then (if t214 > 0 then (paymasterref02_MulDiv.j3 k x13 true x192000 x192001 x193000 x193001) else (if t214 = 0 then (if x3 = 2 then (paymasterref02_MulDiv.j3 k x13 true x192000 x192001 x193000 x193001) else (if x3 = 3 then (paymasterref02_MulDiv.j3 k x13 x17 x192000 x192001 x193000 x193001) else (paymasterref02_MulDiv.j3 k x13 false x192000 x192001 x193000 x193001))) else (paymasterref02_MulDiv.j3 k x13 false x192000 x192001 x193000 x193001))) else (if t214 = 0 then (if x3 = 2 then (paymasterref02_MulDiv.j3 k x13 true x192000 x192001 x193000 x193001) else (if x3 = 3 then (paymasterref02_MulDiv.j3 k x13 x17 x192000 x192001 x193000 x193001) else (paymasterref02_MulDiv.j3 k x13 false x192000 x192001 x193000 x193001))) else (paymasterref02_MulDiv.j3 k x13 false x192000 x192001 x193000 x193001)))))
def paymasterref02_MulDiv.j3 : Nat → List Int → Bool → Bool → List Int → Bool → List Int → Option (Int × Bool)
  | 0, _, _, _, _, _, _ => none
  | k + 1, x13, x19, x192000, x192001, x193000, x193001 => paymasterref02_MulDiv.l2 k x13 x19 0 0 x192000 x192001 x193000 x193001
def paymasterref02_MulDiv.l2 : Nat → List Int → Bool → Int → Int → Bool → List Int → Bool → List Int → Option (Int × Bool)
  | 0, _, _, _, _, _, _, _, _ => none
  | k + 1, x13, x19, x20, x21, x192000, x192001, x193000, x193001 => if x21 < (x13.length : Int) then (if 0 ≤ x21 then (if x20 > (wrap64 (Int.tdiv (wrap64 (9223372036854775807 - (rd x13 x21))) 10)) then (some (0, false)) else (paymasterref02_MulDiv.l2 k x13 x19 (wrap64 ((wrap64 (10 * x20)) + (rd x13 x21))) (wrap64 (x21 + 1)) x192000 x192001 x193000 x193001)) else (none)) else (if x19 = true then (if x20 = 9223372036854775807 then (some (0, false)) else (if (x192000 != x193000) = true then (some (wrap64 (-(wrap64 (x20 + 1))), true)) else (some (wrap64 (x20 + 1), true)))) else (if (x192000 != x193000) = true then (some (wrap64 (-x20), true)) else (some (x20, true))))
end
def paymasterref02_MulDiv.f (k : Nat) (a0 : Int) (a1 : Int) (a2 : Int) (a3 : Int) : Option (Int × Bool) := (paymasterref02_Of.f k a0).bind fun bt175 => ((paymasterref02_Of.f k a1).bind fun bt179 => ((paymasterref02_Mul.f k bt175.1 bt175.2 bt179.1 bt179.2).bind fun bt183 => ((paymasterref02_Of.f k a2).bind fun bt187 => (paymasterref02_MulDiv.l0 k a3 ([] : List Int) ([] : List Int) (wrap64 ((bt183.2.length : Int) - 1)) bt183.1 bt183.2 bt187.1 bt187.2))))
theorem paymasterref02_MulDiv.mono_l : ∀ k, (∀ y0 y1 y2 y3 y4 y5 y6 y7, LeO (paymasterref02_MulDiv.l0 k y0 y1 y2 y3 y4 y5 y6 y7) (paymasterref02_MulDiv.l0 (k + 1) y0 y1 y2 y3 y4 y5 y6 y7)) ∧ (∀ y0 y1 y2 y3 y4 y5 y6 y7 y8, LeO (paymasterref02_MulDiv.l1 k y0 y1 y2 y3 y4 y5 y6 y7 y8) (paymasterref02_MulDiv.l1 (k + 1) y0 y1 y2 y3 y4 y5 y6 y7 y8)) ∧ (∀ y0 y1 y2 y3 y4 y5 y6 y7, LeO (paymasterref02_MulDiv.j2 k y0 y1 y2 y3 y4 y5 y6 y7) (paymasterref02_MulDiv.j2 (k + 1) y0 y1 y2 y3 y4 y5 y6 y7)) ∧ (∀ y0 y1 y2 y3 y4 y5, LeO (paymasterref02_MulDiv.j3 k y0 y1 y2 y3 y4 y5) (paymasterref02_MulDiv.j3 (k + 1) y0 y1 y2 y3 y4 y5)) ∧ (∀ y0 y1 y2 y3 y4 y5 y6 y7, LeO (paymasterref02_MulDiv.l2 k y0 y1 y2 y3 y4 y5 y6 y7) (paymasterref02_MulDiv.l2 (k + 1) y0 y1 y2 y3 y4 y5 y6 y7))
  | 0 => ⟨fun _ _ _ _ _ _ _ _ r h => by simp [paymasterref02_MulDiv.l0] at h, fun _ _ _ _ _ _ _ _ _ r h => by simp [paymasterref02_MulDiv.l1] at h, fun _ _ _ _ _ _ _ _ r h => by simp [paymasterref02_MulDiv.j2] at h, fun _ _ _ _ _ _ r h => by simp [paymasterref02_MulDiv.j3] at h, fun _ _ _ _ _ _ _ _ r h => by simp [paymasterref02_MulDiv.l2] at h⟩
  | k + 1 => by
    obtain ⟨ih0, ih1, ih2, ih3, ih4⟩ := paymasterref02_MulDiv.mono_l k
    refine ⟨?_, ?_, ?_, ?_, ?_⟩
    · intro y0 y1 y2 y3 y4 y5 y6 y7
      unfold paymasterref02_MulDiv.l0
      repeat' first
      | (with_reducible exact ih0 _ _ _ _ _ _ _ _)
      | (with_reducible exact ih1 _ _ _ _ _ _ _ _ _)
      | (with_reducible exact ih2 _ _ _ _ _ _ _ _)
      | (with_reducible exact ih3 _ _ _ _ _ _)
      | (with_reducible exact ih4 _ _ _ _ _ _ _ _)
      | (with_reducible exact paymasterref02_Mul.mono _ _ _ _ _)
      | (with_reducible exact paymasterref02_Of.mono _ _)
      | (with_reducible exact paymasterref02_double.mono _ _)
      | (with_reducible exact paymasterref02_less.mono _ _ _)
      | (with_reducible exact paymasterref02_size.mono _ _ _)
      | (with_reducible exact paymasterref02_trim.mono _ _)
      | (with_reducible exact LeO.refl _)
      | (with_reducible exact LeO.none _)
      | (with_reducible refine LeO.ite ?_ ?_)
      | (with_reducible refine LeO.bind ?_ (fun _ => ?_))
      | exact ih0 _ _ _ _ _ _ _ _
      | exact ih1 _ _ _ _ _ _ _ _ _
      | exact ih2 _ _ _ _ _ _ _ _
      | exact ih3 _ _ _ _ _ _
      | exact ih4 _ _ _ _ _ _ _ _
      | exact paymasterref02_Mul.mono _ _ _ _ _
      | exact paymasterref02_Of.mono _ _
      | exact paymasterref02_double.mono _ _
      | exact paymasterref02_less.mono _ _ _
      | exact paymasterref02_size.mono _ _ _
      | exact paymasterref02_trim.mono _ _
      | exact LeO.none _
      | refine LeO.ite ?_ ?_
      | refine LeO.bind ?_ (fun _ => ?_)
    · intro y0 y1 y2 y3 y4 y5 y6 y7 y8
      unfold paymasterref02_MulDiv.l1
      repeat' first
      | (with_reducible exact ih0 _ _ _ _ _ _ _ _)
      | (with_reducible exact ih1 _ _ _ _ _ _ _ _ _)
      | (with_reducible exact ih2 _ _ _ _ _ _ _ _)
      | (with_reducible exact ih3 _ _ _ _ _ _)
      | (with_reducible exact ih4 _ _ _ _ _ _ _ _)
      | (with_reducible exact paymasterref02_Mul.mono _ _ _ _ _)
      | (with_reducible exact paymasterref02_Of.mono _ _)
      | (with_reducible exact paymasterref02_double.mono _ _)
      | (with_reducible exact paymasterref02_less.mono _ _ _)
      | (with_reducible exact paymasterref02_size.mono _ _ _)
      | (with_reducible exact paymasterref02_trim.mono _ _)
      | (with_reducible exact LeO.refl _)
      | (with_reducible exact LeO.none _)
      | (with_reducible refine LeO.ite ?_ ?_)
      | (with_reducible refine LeO.bind ?_ (fun _ => ?_))
      | exact ih0 _ _ _ _ _ _ _ _
      | exact ih1 _ _ _ _ _ _ _ _ _
      | exact ih2 _ _ _ _ _ _ _ _
      | exact ih3 _ _ _ _ _ _
      | exact ih4 _ _ _ _ _ _ _ _
      | exact paymasterref02_Mul.mono _ _ _ _ _
      | exact paymasterref02_Of.mono _ _
      | exact paymasterref02_double.mono _ _
      | exact paymasterref02_less.mono _ _ _
      | exact paymasterref02_size.mono _ _ _
      | exact paymasterref02_trim.mono _ _
      | exact LeO.none _
      | refine LeO.ite ?_ ?_
      | refine LeO.bind ?_ (fun _ => ?_)
    · intro y0 y1 y2 y3 y4 y5 y6 y7
      unfold paymasterref02_MulDiv.j2
      repeat' first
      | (with_reducible exact ih0 _ _ _ _ _ _ _ _)
      | (with_reducible exact ih1 _ _ _ _ _ _ _ _ _)
      | (with_reducible exact ih2 _ _ _ _ _ _ _ _)
      | (with_reducible exact ih3 _ _ _ _ _ _)
      | (with_reducible exact ih4 _ _ _ _ _ _ _ _)
      | (with_reducible exact paymasterref02_Mul.mono _ _ _ _ _)
      | (with_reducible exact paymasterref02_Of.mono _ _)
      | (with_reducible exact paymasterref02_double.mono _ _)
      | (with_reducible exact paymasterref02_less.mono _ _ _)
      | (with_reducible exact paymasterref02_size.mono _ _ _)
      | (with_reducible exact paymasterref02_trim.mono _ _)
      | (with_reducible exact LeO.refl _)
      | (with_reducible exact LeO.none _)
      | (with_reducible refine LeO.ite ?_ ?_)
      | (with_reducible refine LeO.bind ?_ (fun _ => ?_))
      | exact ih0 _ _ _ _ _ _ _ _
      | exact ih1 _ _ _ _ _ _ _ _ _
      | exact ih2 _ _ _ _ _ _ _ _
      | exact ih3 _ _ _ _ _ _
      | exact ih4 _ _ _ _ _ _ _ _
      | exact paymasterref02_Mul.mono _ _ _ _ _
      | exact paymasterref02_Of.mono _ _
      | exact paymasterref02_double.mono _ _
      | exact paymasterref02_less.mono _ _ _
      | exact paymasterref02_size.mono _ _ _
      | exact paymasterref02_trim.mono _ _
      | exact LeO.none _
      | refine LeO.ite ?_ ?_
      | refine LeO.bind ?_ (fun _ => ?_)
    · intro y0 y1 y2 y3 y4 y5
      unfold paymasterref02_MulDiv.j3
      repeat' first
      | (with_reducible exact ih0 _ _ _ _ _ _ _ _)
      | (with_reducible exact ih1 _ _ _ _ _ _ _ _ _)
      | (with_reducible exact ih2 _ _ _ _ _ _ _ _)
      | (with_reducible exact ih3 _ _ _ _ _ _)
      | (with_reducible exact ih4 _ _ _ _ _ _ _ _)
      | (with_reducible exact paymasterref02_Mul.mono _ _ _ _ _)
      | (with_reducible exact paymasterref02_Of.mono _ _)
      | (with_reducible exact paymasterref02_double.mono _ _)
      | (with_reducible exact paymasterref02_less.mono _ _ _)
      | (with_reducible exact paymasterref02_size.mono _ _ _)
      | (with_reducible exact paymasterref02_trim.mono _ _)
      | (with_reducible exact LeO.refl _)
      | (with_reducible exact LeO.none _)
      | (with_reducible refine LeO.ite ?_ ?_)
      | (with_reducible refine LeO.bind ?_ (fun _ => ?_))
      | exact ih0 _ _ _ _ _ _ _ _
      | exact ih1 _ _ _ _ _ _ _ _ _
      | exact ih2 _ _ _ _ _ _ _ _
      | exact ih3 _ _ _ _ _ _
      | exact ih4 _ _ _ _ _ _ _ _
      | exact paymasterref02_Mul.mono _ _ _ _ _
      | exact paymasterref02_Of.mono _ _
      | exact paymasterref02_double.mono _ _
      | exact paymasterref02_less.mono _ _ _
      | exact paymasterref02_size.mono _ _ _
      | exact paymasterref02_trim.mono _ _
      | exact LeO.none _
      | refine LeO.ite ?_ ?_
      | refine LeO.bind ?_ (fun _ => ?_)
    · intro y0 y1 y2 y3 y4 y5 y6 y7
      unfold paymasterref02_MulDiv.l2
      repeat' first
      | (with_reducible exact ih0 _ _ _ _ _ _ _ _)
      | (with_reducible exact ih1 _ _ _ _ _ _ _ _ _)
      | (with_reducible exact ih2 _ _ _ _ _ _ _ _)
      | (with_reducible exact ih3 _ _ _ _ _ _)
      | (with_reducible exact ih4 _ _ _ _ _ _ _ _)
      | (with_reducible exact paymasterref02_Mul.mono _ _ _ _ _)
      | (with_reducible exact paymasterref02_Of.mono _ _)
      | (with_reducible exact paymasterref02_double.mono _ _)
      | (with_reducible exact paymasterref02_less.mono _ _ _)
      | (with_reducible exact paymasterref02_size.mono _ _ _)
      | (with_reducible exact paymasterref02_trim.mono _ _)
      | (with_reducible exact LeO.refl _)
      | (with_reducible exact LeO.none _)
      | (with_reducible refine LeO.ite ?_ ?_)
      | (with_reducible refine LeO.bind ?_ (fun _ => ?_))
      | exact ih0 _ _ _ _ _ _ _ _
      | exact ih1 _ _ _ _ _ _ _ _ _
      | exact ih2 _ _ _ _ _ _ _ _
      | exact ih3 _ _ _ _ _ _
      | exact ih4 _ _ _ _ _ _ _ _
      | exact paymasterref02_Mul.mono _ _ _ _ _
      | exact paymasterref02_Of.mono _ _
      | exact paymasterref02_double.mono _ _
      | exact paymasterref02_less.mono _ _ _
      | exact paymasterref02_size.mono _ _ _
      | exact paymasterref02_trim.mono _ _
      | exact LeO.none _
      | refine LeO.ite ?_ ?_
      | refine LeO.bind ?_ (fun _ => ?_)
theorem paymasterref02_MulDiv.mono : ∀ a0 a1 a2 a3 k, LeO (paymasterref02_MulDiv.f k a0 a1 a2 a3) (paymasterref02_MulDiv.f (k + 1) a0 a1 a2 a3) := by
  intro a0 a1 a2 a3 k
  obtain ⟨ih0, ih1, ih2, ih3, ih4⟩ := paymasterref02_MulDiv.mono_l k
  unfold paymasterref02_MulDiv.f
  repeat' first
      | (with_reducible exact ih0 _ _ _ _ _ _ _ _)
      | (with_reducible exact ih1 _ _ _ _ _ _ _ _ _)
      | (with_reducible exact ih2 _ _ _ _ _ _ _ _)
      | (with_reducible exact ih3 _ _ _ _ _ _)
      | (with_reducible exact ih4 _ _ _ _ _ _ _ _)
      | (with_reducible exact paymasterref02_Mul.mono _ _ _ _ _)
      | (with_reducible exact paymasterref02_Of.mono _ _)
      | (with_reducible exact paymasterref02_double.mono _ _)
      | (with_reducible exact paymasterref02_less.mono _ _ _)
      | (with_reducible exact paymasterref02_size.mono _ _ _)
      | (with_reducible exact paymasterref02_trim.mono _ _)
      | (with_reducible exact LeO.refl _)
      | (with_reducible exact LeO.none _)
      | (with_reducible refine LeO.ite ?_ ?_)
      | (with_reducible refine LeO.bind ?_ (fun _ => ?_))
      | exact ih0 _ _ _ _ _ _ _ _
      | exact ih1 _ _ _ _ _ _ _ _ _
      | exact ih2 _ _ _ _ _ _ _ _
      | exact ih3 _ _ _ _ _ _
      | exact ih4 _ _ _ _ _ _ _ _
      | exact paymasterref02_Mul.mono _ _ _ _ _
      | exact paymasterref02_Of.mono _ _
      | exact paymasterref02_double.mono _ _
      | exact paymasterref02_less.mono _ _ _
      | exact paymasterref02_size.mono _ _ _
      | exact paymasterref02_trim.mono _ _
      | exact LeO.none _
      | refine LeO.ite ?_ ?_
      | refine LeO.bind ?_ (fun _ => ?_)
set_option maxHeartbeats 8000000 in
set_option maxRecDepth 100000 in
theorem paymasterref02_MulDiv.calls (k : Nat) (a0 : Int) (a1 : Int) (a2 : Int) (a3 : Int) (r1 : Int) (r2 : Bool) (w : World) (h : paymasterref02_MulDiv.f k a0 a1 a2 a3 = some (r1, r2)) :
    Calls Try.prog 13 #[.int .i64 a0, .int .i64 a1, .int .i64 a2, .int .i64 a3] w fun e w' => e = .returned (.tuple #[.int .i64 r1, .bool r2]) ∧ Below w.heap.size w w' := by
  have hu32 := Try.underlying32
  have HB := Aside0.mk (Below.refl w.heap.size w)
  have H : ((paymasterref02_Of.f k a0).bind fun bt175 => ((paymasterref02_Of.f k a1).bind fun bt179 => ((paymasterref02_Mul.f k bt175.1 bt175.2 bt179.1 bt179.2).bind fun bt183 => ((paymasterref02_Of.f k a2).bind fun bt187 => (paymasterref02_MulDiv.l0 k a3 ([] : List Int) ([] : List Int) (wrap64 ((bt183.2.length : Int) - 1)) bt183.1 bt183.2 bt187.1 bt187.2))))) = some (r1, r2) := h
  clear h
  replace H := Option.bind_eq_some_iff.mp H
  obtain ⟨⟨t175, t176⟩, A50, H⟩ := H
  replace H : ((paymasterref02_Of.f k a1).bind fun bt179 => ((paymasterref02_Mul.f k t175 t176 bt179.1 bt179.2).bind fun bt183 => ((paymasterref02_Of.f k a2).bind fun bt187 => (paymasterref02_MulDiv.l0 k a3 ([] : List Int) ([] : List Int) (wrap64 ((bt183.2.length : Int) - 1)) bt183.1 bt183.2 bt187.1 bt187.2)))) = some (r1, r2) := H
  have A5 := Aside0.mk A50
  clear A50
  replace H := Option.bind_eq_some_iff.mp H
  obtain ⟨⟨t179, t180⟩, A60, H⟩ := H
  replace H : ((paymasterref02_Mul.f k t175 t176 t179 t180).bind fun bt183 => ((paymasterref02_Of.f k a2).bind fun bt187 => (paymasterref02_MulDiv.l0 k a3 ([] : List Int) ([] : List Int) (wrap64 ((bt183.2.length : Int) - 1)) bt183.1 bt183.2 bt187.1 bt187.2))) = some (r1, r2) := H
  have A6 := Aside0.mk A60
  clear A60
  replace H := Option.bind_eq_some_iff.mp H
  obtain ⟨⟨t183, t184⟩, A70, H⟩ := H
  replace H : ((paymasterref02_Of.f k a2).bind fun bt187 => (paymasterref02_MulDiv.l0 k a3 ([] : List Int) ([] : List Int) (wrap64 ((t184.length : Int) - 1)) t183 t184 bt187.1 bt187.2)) = some (r1, r2) := H
  have A7 := Aside0.mk A70
  clear A70
  replace H := Option.bind_eq_some_iff.mp H
  obtain ⟨⟨t187, t188⟩, A80, H⟩ := H
  replace H : (paymasterref02_MulDiv.l0 k a3 ([] : List Int) ([] : List Int) (wrap64 ((t184.length : Int) - 1)) t183 t184 t187 t188) = some (r1, r2) := H
  have A8 := Aside0.mk A80
  clear A80
  have H' := Aside0.mk H
  clear H
  go_enter Try.func13, Try.ntmps13
  go_wp2_with (first | ((with_reducible refine gate_callee (f := 16) rfl ?_); refine goesL_ (some 23) rfl rfl Try.func16 (by kernel_rfl) rfl #[.int .i64 a0] rfl (by (try simp only [List.map_toArray, List.map_cons, List.map_nil]); first | done | rfl | (simp only [List.length_drop, List.length_take]; rfl)) ?_; (with_reducible refine (paymasterref02_Of.calls k a0 t175 t176 _ A5.out).mono ?_); rintro e w9 ⟨v177, rfl, ho0, hb⟩; refine ⟨_, rfl, ?_⟩; have n0_ := Aside0.mk (Kd.R_lower ho0 (below_size (by repeat (first | (with_reducible first | exact HB.out | apply below_alloc | apply pw_below_drewN | apply below_drew1) | exact HB.out)))); have n1_ := Aside0.mk (below_step (by repeat (first | (with_reducible first | exact HB.out | apply below_alloc | apply pw_below_drewN | apply below_drew1) | exact HB.out)) hb); clear HB; have HO178 := n0_; have HB := n1_; clear n0_ n1_; (try clear hb); (try clear hb2); (try clear hk); (try clear hi); (try clear ho0)) | ((with_reducible refine gate_callee (f := 16) rfl ?_); refine goesL_ (some 25) rfl rfl Try.func16 (by kernel_rfl) rfl #[.int .i64 a1] rfl (by (try simp only [List.map_toArray, List.map_cons, List.map_nil]); first | done | rfl | (simp only [List.length_drop, List.length_take]; rfl)) ?_; (with_reducible refine (paymasterref02_Of.calls k a1 t179 t180 _ A6.out).mono ?_); rintro e w10 ⟨v181, rfl, ho0, hb⟩; refine ⟨_, rfl, ?_⟩; have n0_ := Aside0.mk (Kd.R_elder' (by (with_reducible repeat (first | apply Kd.R_alloc | apply Kd.R_drewN | apply Kd.R_drew)); exact HO178.out) (Kd.R_base ho0) hb); have n1_ := Aside0.mk (Kd.R_lower (Kd.R_new' ho0 (Kd.R_lt (by (with_reducible repeat (first | apply Kd.R_alloc | apply Kd.R_drewN | apply Kd.R_drew)); exact HO178.out))) (below_size (by repeat (first | (with_reducible first | exact HB.out | apply below_alloc | apply pw_below_drewN | apply below_drew1) | exact HB.out)))); have n2_ := Aside0.mk (below_step (by repeat (first | (with_reducible first | exact HB.out | apply below_alloc | apply pw_below_drewN | apply below_drew1) | exact HB.out)) hb); clear HO178; clear HB; have HO178 := n0_; have HO182 := n1_; have HB := n2_; clear n0_ n1_ n2_; (try clear hb); (try clear hb2); (try clear hk); (try clear hi); (try clear ho0); obtain ⟨Ao11, co11, eo11⟩ := Kd.R_slice HO178.out; subst eo11; obtain ⟨Ao12, co12, eo12⟩ := Kd.R_slice HO182.out; subst eo12) | ((with_reducible refine gate_callee (f := 15) rfl ?_); refine goesL_ (some 26) rfl rfl Try.func15 (by kernel_rfl) rfl #[.agg #[.bool t175, .slice Ao11 t176.length co11], .agg #[.bool t179, .slice Ao12 t180.length co12]] rfl (by (try simp only [List.map_toArray, List.map_cons, List.map_nil]); first | done | rfl | (simp only [List.length_drop, List.length_take]; rfl)) ?_; (with_reducible refine (paymasterref02_Mul.calls k t175 _ _ t176 t179 _ _ t180 t183 t184 _ ?side1 ?side2 ?side3 ?side4 A7.out).mono ?_); (case side1 => repeat (first | exact (Kd.R_reads' HO178.out).2.2 | (with_reducible refine Kd.C_alloc ?_ _) | (with_reducible refine Kd.C_drewN ?_ _) | (with_reducible refine Kd.C_drew ?_))); (case side2 => exact (Kd.R_reads' HO178.out).2.1); (case side3 => repeat (first | exact (Kd.R_reads' HO182.out).2.2 | (with_reducible refine Kd.C_alloc ?_ _) | (with_reducible refine Kd.C_drewN ?_ _) | (with_reducible refine Kd.C_drew ?_))); (case side4 => exact (Kd.R_reads' HO182.out).2.1); rintro e w13 ⟨v185, rfl, ho0, hb⟩; refine ⟨_, rfl, ?_⟩; have n0_ := Aside0.mk (Kd.R_below (by (with_reducible repeat (first | apply Kd.R_alloc | apply Kd.R_drewN | apply Kd.R_drew)); exact HO178.out) hb); have n1_ := Aside0.mk (Kd.R_below (by (with_reducible repeat (first | apply Kd.R_alloc | apply Kd.R_drewN | apply Kd.R_drew)); exact HO182.out) hb); have n2_ := Aside0.mk (Kd.V_lower (Kd.V_mono (ok' := fun k_ => some k_ ≠ (.slice Ao11 t176.length co11 : Value).ownBlock ∧ some k_ ≠ (.slice Ao12 t180.length co12 : Value).ownBlock) ho0 (fun k_ hk_ => ⟨(Kd.fresh' (Kd.R_lt (by (with_reducible repeat (first | apply Kd.R_alloc | apply Kd.R_drewN | apply Kd.R_drew)); exact HO178.out)) k_ hk_), (Kd.fresh' (Kd.R_lt (by (with_reducible repeat (first | apply Kd.R_alloc | apply Kd.R_drewN | apply Kd.R_drew)); exact HO182.out)) k_ hk_)⟩)) (below_size (by repeat (first | (with_reducible first | exact HB.out | apply below_alloc | apply pw_below_drewN | apply below_drew1) | exact HB.out)))); have n3_ := Aside0.mk (below_step (by repeat (first | (with_reducible first | exact HB.out | apply below_alloc | apply pw_below_drewN | apply below_drew1) | exact HB.out)) hb); clear HO178; clear HO182; clear HB; have HO178 := n0_; have HO182 := n1_; have HO186 := n2_; have HB := n3_; clear n0_ n1_ n2_ n3_; (try clear hb); (try clear hb2); (try clear hk); (try clear hi); (try clear ho0)) | ((with_reducible refine gate_callee (f := 16) rfl ?_); refine goesL_ (some 28) rfl rfl Try.func16 (by kernel_rfl) rfl #[.int .i64 a2] rfl (by (try simp only [List.map_toArray, List.map_cons, List.map_nil]); first | done | rfl | (simp only [List.length_drop, List.length_take]; rfl)) ?_; (with_reducible refine (paymasterref02_Of.calls k a2 t187 t188 _ A8.out).mono ?_); rintro e w14 ⟨v189, rfl, ho0, hb⟩; refine ⟨_, rfl, ?_⟩; have n0_ := Aside0.mk (Kd.R_elder' (by (with_reducible repeat (first | apply Kd.R_alloc | apply Kd.R_drewN | apply Kd.R_drew)); exact HO178.out) (Kd.R_base ho0) hb); have n1_ := Aside0.mk (Kd.R_elder' (by (with_reducible repeat (first | apply Kd.R_alloc | apply Kd.R_drewN | apply Kd.R_drew)); exact HO182.out) (Kd.R_base ho0) hb); have n2_ := Aside0.mk (Kd.V_elder' (by (with_reducible repeat (first | apply Kd.V_alloc | apply Kd.V_drewN | apply Kd.V_drew)); exact HO186.out) (Kd.R_base ho0) hb); have n3_ := Aside0.mk (Kd.R_lower (Kd.R_new' (Kd.R_new' ho0 (Kd.R_lt (by (with_reducible repeat (first | apply Kd.R_alloc | apply Kd.R_drewN | apply Kd.R_drew)); exact HO178.out))) (Kd.R_lt (by (with_reducible repeat (first | apply Kd.R_alloc | apply Kd.R_drewN | apply Kd.R_drew)); exact HO182.out))) (below_size (by repeat (first | (with_reducible first | exact HB.out | apply below_alloc | apply pw_below_drewN | apply below_drew1) | exact HB.out)))); have n4_ := Aside0.mk (below_step (by repeat (first | (with_reducible first | exact HB.out | apply below_alloc | apply pw_below_drewN | apply below_drew1) | exact HB.out)) hb); clear HO178; clear HO182; clear HO186; clear HB; have HO178 := n0_; have HO182 := n1_; have HO186 := n2_; have HO190 := n3_; have HB := n4_; clear n0_ n1_ n2_ n3_ n4_; (try clear hb); (try clear hb2); (try clear hk); (try clear hi); (try clear ho0)) | ((with_reducible refine gate_dst (N := 10) rfl ?_); (try (refine gate_guard (by rfl) ?_; dsimp only)); refine box_event ?hg (N := 10) ?hd (cs := #[.bool false, .slice none 0 0]) (t := 32) ?hr ?_; (case hd => rfl); (case hg => rfl); (case hr => first | (go_simp; done) | (go_simp; rfl)); intro gb191 hg w15 hbox hb; have n0_ := Aside0.mk (Kd.R_below (by (with_reducible repeat (first | apply Kd.R_alloc | apply Kd.R_drewN | apply Kd.R_drew)); exact HO178.out) hb); have n1_ := Aside0.mk (Kd.R_below (by (with_reducible repeat (first | apply Kd.R_alloc | apply Kd.R_drewN | apply Kd.R_drew)); exact HO182.out) hb); have n2_ := Aside0.mk (Kd.V_below (Kd.V_elderB (by (with_reducible repeat (first | apply Kd.V_alloc | apply Kd.V_drewN | apply Kd.V_drew)); exact HO186.out) gb191 (Nat.le_of_eq hg.symm)) hb); have n3_ := Aside0.mk (Kd.R_below (by (with_reducible repeat (first | apply Kd.R_alloc | apply Kd.R_drewN | apply Kd.R_drew)); exact HO190.out) hb); have n4_ := Aside0.mk (below_step (by repeat (first | (with_reducible first | exact HB.out | apply below_alloc | apply pw_below_drewN | apply below_drew1) | exact HB.out)) hb); have n5_ := Aside0.mk (hbox); have n6_ := Aside0.mk ((by rw [hg]; exact (below_size (by repeat (first | (with_reducible first | exact HB.out | apply below_alloc | apply pw_below_drewN | apply below_drew1) | exact HB.out))) : w.heap.size ≤ gb191)); have n7_ := Aside0.mk ((by rw [hg]; exact (below_size (by repeat (first | (with_reducible first | exact HB.out | apply below_alloc | apply pw_below_drewN | apply below_drew1) | exact HB.out))) : w.heap.size ≤ gb191)); clear HO178; clear HO182; clear HO186; clear HO190; clear HB; have HO178 := n0_; have HO182 := n1_; have HO186 := n2_; have HO190 := n3_; have HB := n4_; have BK191 := n5_; have GW191 := n6_; have GE191 := n7_; clear n0_ n1_ n2_ n3_ n4_ n5_ n6_ n7_; clear hb hbox hg) | ((with_reducible refine gate_dst (N := 11) rfl ?_); (try (refine gate_guard (by rfl) ?_; dsimp only)); refine box_event ?hg (N := 11) ?hd (cs := #[.bool false, .slice none 0 0]) (t := 32) ?hr ?_; (case hd => rfl); (case hg => rfl); (case hr => first | (go_simp; done) | (go_simp; rfl)); intro gb192 hg w16 hbox hb; have n0_ := Aside0.mk (Kd.R_below (by (with_reducible repeat (first | apply Kd.R_alloc | apply Kd.R_drewN | apply Kd.R_drew)); exact HO178.out) hb); have n1_ := Aside0.mk (Kd.R_below (by (with_reducible repeat (first | apply Kd.R_alloc | apply Kd.R_drewN | apply Kd.R_drew)); exact HO182.out) hb); have n2_ := Aside0.mk (Kd.V_below (Kd.V_elderB (by (with_reducible repeat (first | apply Kd.V_alloc | apply Kd.V_drewN | apply Kd.V_drew)); exact HO186.out) gb192 (Nat.le_of_eq hg.symm)) hb); have n3_ := Aside0.mk (Kd.R_below (by (with_reducible repeat (first | apply Kd.R_alloc | apply Kd.R_drewN | apply Kd.R_drew)); exact HO190.out) hb); have n4_ := Aside0.mk (blk_below (g := gb191) (o := .cells #[.bool false, .slice none 0 0] 32 (0, 0)) (by (with_reducible repeat (first | refine blk_drewN ?_ _ | refine blk_drew ?_ | refine blk_alloc ?_ _)); exact BK191.out) hb); have n5_ := Aside0.mk (below_step (by repeat (first | (with_reducible first | exact HB.out | apply below_alloc | apply pw_below_drewN | apply below_drew1 | refine below_set ?_ GE191.out) | exact HB.out)) hb); have n6_ := Aside0.mk (hbox); have n7_ := Aside0.mk ((by rw [hg]; exact (below_size (by repeat (first | (with_reducible first | exact HB.out | apply below_alloc | apply pw_below_drewN | apply below_drew1 | refine below_set ?_ GE191.out) | exact HB.out))) : w.heap.size ≤ gb192)); have n8_ := Aside0.mk ((by rw [hg]; exact (below_size (by repeat (first | (with_reducible first | exact HB.out | apply below_alloc | apply pw_below_drewN | apply below_drew1 | refine below_set ?_ GE191.out) | exact HB.out))) : w.heap.size ≤ gb192)); have n9_ := Aside0.mk ((by rw [hg]; exact Nat.ne_of_lt (blk_lt (g := gb191) (o := .cells #[.bool false, .slice none 0 0] 32 (0, 0)) (by (with_reducible repeat (first | refine blk_drewN ?_ _ | refine blk_drew ?_ | refine blk_alloc ?_ _)); exact BK191.out)) : gb191 ≠ gb192)); have n10_ := Aside0.mk ((by rw [hg]; exact Nat.ne_of_gt (blk_lt (g := gb191) (o := .cells #[.bool false, .slice none 0 0] 32 (0, 0)) (by (with_reducible repeat (first | refine blk_drewN ?_ _ | refine blk_drew ?_ | refine blk_alloc ?_ _)); exact BK191.out)) : gb192 ≠ gb191)); clear HO178; clear HO182; clear HO186; clear HO190; clear BK191; clear HB; have HO178 := n0_; have HO182 := n1_; have HO186 := n2_; have HO190 := n3_; have BK191 := n4_; have HB := n5_; have BK192 := n6_; have GW192 := n7_; have GE192 := n8_; have NB191_192 := n9_; have NB192_191 := n10_; clear n0_ n1_ n2_ n3_ n4_ n5_ n6_ n7_ n8_ n9_ n10_; clear hb hbox hg; have hnb17 := NB191_192.out; have hnc17 := NB192_191.out; have hcz18_0 : w16.cell? ⟨gb191, 0, none⟩ = some (.bool false) := (blk_cell BK191.out 0).trans rfl; have hcz18_1 : w16.cell? ⟨gb191, 1, none⟩ = some (.slice none 0 0) := (blk_cell BK191.out 1).trans rfl; have hfz18_0 := blk_frozen BK191.out 0; have hfz18_1 := blk_frozen BK191.out 1; obtain ⟨Ao19, co19, eo19⟩ := Kd.V_slice HO186.out; subst eo19; have hcz20_0 : w16.cell? ⟨gb192, 0, none⟩ = some (.bool false) := (blk_cell BK192.out 0).trans rfl; have hcz20_1 : w16.cell? ⟨gb192, 1, none⟩ = some (.slice none 0 0) := (blk_cell BK192.out 1).trans rfl; have hfz20_0 := blk_frozen BK192.out 0; have hfz20_1 := blk_frozen BK192.out 1; obtain ⟨Ao21, co21, eo21⟩ := Kd.R_slice HO190.out; subst eo21))
  go_loopg [12, 13, 14] k (fun kq v12 v13 v14 w' => ∃ (x12_1 : List Int) (x13_1 : List Int) (x14_1 : Int), v14 = .int .i64 x14_1 ∧ Aside0 (paymasterref02_MulDiv.l0 kq a3 x12_1 x13_1 x14_1 t183 t184 t187 t188 = some (r1, r2)) ∧ Aside0 (kq ≤ k) ∧ Aside0 (Kd.V (Kd.int .i64) 3 w' w.heap.size (fun k_ => some k_ ≠ (v13 : Value).ownBlock ∧ some k_ ≠ ((.slice Ao21 t188.length co21) : Value).ownBlock ∧ k_ ≠ gb191 ∧ k_ ≠ gb192) v12 x12_1) ∧ Aside0 (Kd.R (Kd.int .i64) 3 w' w.heap.size (fun k_ => some k_ ≠ ((.slice Ao21 t188.length co21) : Value).ownBlock) v13 x13_1) ∧ Aside0 (Kd.V (Kd.int .i64) 3 w' w.heap.size (fun k_ => some k_ ≠ (v13 : Value).ownBlock ∧ some k_ ≠ ((.slice Ao21 t188.length co21) : Value).ownBlock ∧ k_ ≠ gb191 ∧ k_ ≠ gb192) (.slice Ao19 t184.length co19) t184) ∧ Aside0 (Kd.R (Kd.int .i64) 3 w' w.heap.size (fun k_ => some k_ ≠ (v13 : Value).ownBlock) (.slice Ao21 t188.length co21) t188) ∧ Aside0 (w'.heap[gb191]? = some (.cells #[.bool t183, (.slice Ao19 t184.length co19)] 32 (0, 0))) ∧ Aside0 (w'.heap[gb192]? = some (.cells #[.bool t187, (.slice Ao21 t188.length co21)] 32 (0, 0))) ∧ Aside0 (Below w.heap.size w w'))
  case atStart => exact ⟨(([] : List Int)), (([] : List Int)), (wrap64 ((t184.length : Int) - 1)), (by first | rfl | (simp; done) | (simp [*]; done)), H', ⟨Nat.le_refl _⟩, ⟨Kd.V_nil _ _ _ _ _⟩, ⟨by first | exact Kd.R_nil _ _ _ _ _ | exact Kd.N_nil _ _ _ _ _ | exact Kd.V_nil _ _ _ _ _ | exact Kd.Q_nil _ _ _ _ _ | exact Kd.S_nil _ _ _ _ _⟩, ⟨by (with_reducible repeat (first | apply Kd.V_alloc | apply Kd.V_drewN | apply Kd.V_drew)); exact Kd.V_mono (Kd.V_far (p := ⟨gb192, 1, none⟩) (Kd.V_far (p := ⟨gb192, 0, none⟩) (Kd.V_far (p := ⟨gb191, 1, none⟩) (Kd.V_far (p := ⟨gb191, 0, none⟩) (Kd.V_mono (Kd.V_mono HO186.out (fun k_ hk => (⟨hk, hk.1.2⟩ : _ ∧ k_ ≠ gb191))) (fun k_ hk => (⟨hk, hk.1.2⟩ : _ ∧ k_ ≠ gb192))) (fun _ hk => hk.1.2) (.bool t183)) (fun _ hk => hk.1.2) (.slice Ao19 t184.length co19)) (fun _ hk => hk.2) (.bool t187)) (fun _ hk => hk.2) (.slice Ao21 t188.length co21)) (fun _ hk => ⟨(by simp [Value.ownBlock]), ⟨hk.1.1.1.1.2, ⟨hk.1.1.1.2, hk.1.1.2⟩⟩⟩)⟩, ⟨by (with_reducible repeat (first | apply Kd.R_alloc | apply Kd.R_drewN | apply Kd.R_drew)); exact Kd.R_mono (Kd.R_far (p := ⟨gb192, 1, none⟩) (Kd.R_far (p := ⟨gb192, 0, none⟩) (Kd.R_far (p := ⟨gb191, 1, none⟩) (Kd.R_far (p := ⟨gb191, 0, none⟩) (Kd.R_types (Kd.R_types HO190.out BK191.out (by decide)) BK192.out (by decide)) (fun _ hk => hk.1.2) (.bool t183)) (fun _ hk => hk.1.2) (.slice Ao19 t184.length co19)) (fun _ hk => hk.2) (.bool t187)) (fun _ hk => hk.2) (.slice Ao21 t188.length co21)) (fun _ hk => (by simp [Value.ownBlock]))⟩, ⟨by (with_reducible repeat (first | refine blk_drewN ?_ _ | refine blk_drew ?_ | refine blk_alloc ?_ _)); refine blk_far ?_ NB191_192.out _; (with_reducible repeat (first | refine blk_drewN ?_ _ | refine blk_drew ?_ | refine blk_alloc ?_ _)); refine blk_far ?_ NB191_192.out _; (with_reducible repeat (first | refine blk_drewN ?_ _ | refine blk_drew ?_ | refine blk_alloc ?_ _)); refine blk_put (cs := #[.bool t183, .slice none 0 0]) ?_ 1 _ rfl; (with_reducible repeat (first | refine blk_drewN ?_ _ | refine blk_drew ?_ | refine blk_alloc ?_ _)); refine blk_put (cs := #[.bool false, .slice none 0 0]) ?_ 0 _ rfl; (with_reducible repeat (first | refine blk_drewN ?_ _ | refine blk_drew ?_ | refine blk_alloc ?_ _)); exact BK191.out⟩, ⟨by (with_reducible repeat (first | refine blk_drewN ?_ _ | refine blk_drew ?_ | refine blk_alloc ?_ _)); refine blk_put (cs := #[.bool t187, .slice none 0 0]) ?_ 1 _ rfl; (with_reducible repeat (first | refine blk_drewN ?_ _ | refine blk_drew ?_ | refine blk_alloc ?_ _)); refine blk_put (cs := #[.bool false, .slice none 0 0]) ?_ 0 _ rfl; (with_reducible repeat (first | refine blk_drewN ?_ _ | refine blk_drew ?_ | refine blk_alloc ?_ _)); refine blk_far ?_ NB192_191.out _; (with_reducible repeat (first | refine blk_drewN ?_ _ | refine blk_drew ?_ | refine blk_alloc ?_ _)); refine blk_far ?_ NB192_191.out _; (with_reducible repeat (first | refine blk_drewN ?_ _ | refine blk_drew ?_ | refine blk_alloc ?_ _)); exact BK192.out⟩, ⟨by repeat (first | (with_reducible first | exact HB.out | apply below_alloc | apply pw_below_drewN | apply below_drew1 | refine below_set ?_ GE191.out | refine below_set ?_ GE192.out) | exact HB.out)⟩⟩
  case round =>
    clear H'
    try clear c1
    try clear p2
    try clear p6
    try clear c13
    try clear c15
    try clear c16
    try clear c17
    try clear hcz18_0
    try clear hcz18_1
    try clear hcz20_0
    try clear hcz20_1
    try clear hfz18_0
    try clear hfz18_1
    try clear hfz20_0
    try clear hfz20_1
    obtain ⟨x12_1, x13_1, x14_1, rfl, HA, HK1, HO_12, HO_13, HO_192001, HO_193001, BK191, BK192, HB⟩ := hrel
    cases gk with
    | zero => exact absurd HA.out (by simp [paymasterref02_MulDiv.l0])
    | succ k1 =>
      have H := HA.out
      clear HA
      simp only [paymasterref02_MulDiv.l0] at H
      by_cases c22 : x14_1 ≥ 0
      · rw [if_pos c22] at H
        have c22b0 : decide (0 ≤ x14_1) = true := decide_eq_true c22
        clear c22
        by_cases c23 : 0 ≤ x14_1
        · rw [if_pos c23] at H
          have c23b0 : decide (0 ≤ x14_1) = true := decide_eq_true c23
          clear c23
          by_cases c24 : x14_1 < (t184.length : Int)
          · rw [if_pos c24] at H
            have c24b0 : decide (x14_1 < (t184.length : Int)) = true := decide_eq_true c24
            clear c24
            by_cases c25 : ([] : List Int).length < 17592186044416
            · rw [if_pos c25] at H
              have LMc25 := Aside0.mk c25
              clear c25
              obtain ⟨y194, hy194⟩ : ∃ y_ : List Int, y_ = (([] : List Int) ++ [rd t184 x14_1]) := ⟨_, rfl⟩
              replace H : (if y194.length + x12_1.length < 17592186044416 then ((paymasterref02_trim.f k1 (y194 ++ x12_1)).bind fun t200 => (paymasterref02_MulDiv.l1 k1 a3 t200 x13_1 x14_1 0 t183 t184 t187 t188)) else (none)) = some (r1, r2) := by first | (rw [hy194]; with_reducible exact H) | (have H2_ := (Option.bind_some _ _).symm.trans H; rw [hy194]; with_reducible exact H2_) | (have H2_ := (Option.bind_some _ _).symm.trans H; with_reducible exact H2_) | with_reducible exact H | (rw [hy194]; exact H) | exact H
              have Ny194 := Aside0.mk hy194
              clear hy194
              by_cases c26 : y194.length + x12_1.length < 17592186044416
              · rw [if_pos c26] at H
                have LMc26 := Aside0.mk c26
                clear c26
                obtain ⟨y197, hy197⟩ : ∃ y_ : List Int, y_ = (y194 ++ x12_1) := ⟨_, rfl⟩
                replace H : ((paymasterref02_trim.f k1 y197).bind fun t200 => (paymasterref02_MulDiv.l1 k1 a3 t200 x13_1 x14_1 0 t183 t184 t187 t188)) = some (r1, r2) := by first | (rw [hy197]; with_reducible exact H) | (have H2_ := (Option.bind_some _ _).symm.trans H; rw [hy197]; with_reducible exact H2_) | (have H2_ := (Option.bind_some _ _).symm.trans H; with_reducible exact H2_) | with_reducible exact H | (rw [hy197]; exact H) | exact H
                have Ny197 := Aside0.mk hy197
                clear hy197
                replace H := Option.bind_eq_some_iff.mp H
                obtain ⟨t200, A270, H⟩ := H
                replace H : (paymasterref02_MulDiv.l1 k1 a3 t200 x13_1 x14_1 0 t183 t184 t187 t188) = some (r1, r2) := H
                have A27 := Aside0.mk A270
                clear A270
                have H' := Aside0.mk H
                clear H
                have hnb28 := NB191_192.out
                have hnc28 := NB192_191.out
                have hcz29_0 : wr.cell? ⟨gb191, 0, none⟩ = some (.bool t183) := (blk_cell BK191.out 0).trans rfl
                have hcz29_1 : wr.cell? ⟨gb191, 1, none⟩ = some (.slice Ao19 t184.length co19) := (blk_cell BK191.out 1).trans rfl
                have hfz29_0 := blk_frozen BK191.out 0
                have hfz29_1 := blk_frozen BK191.out 1
                have p193 : 0 ≤ (x14_1 : Int) := of_decide_eq_true (by first | (with_reducible assumption) | assumption)
                have q193 : x14_1 < (t184.length : Int) := of_decide_eq_true (by first | (with_reducible assumption) | assumption)
                obtain ⟨ad193, e193, hx193_0⟩ := Kd.at_int (Kd.V_reads' HO_192001.out).2.2 x14_1 p193 q193
                cases e193
                replace p193 := eq_true p193
                replace q193 := eq_true q193
                go_wp2_with (first | ((with_reducible refine gate_builtin (b := .append) (xs := #[.tmp 37, .tmp 43]) rfl ?_); (try (refine gate_guard (by rfl) ?_; dsimp only)); at_builtin; refine Kd.R_append (Kd.int .i64) (w0 := w) w.heap.size rfl (.tmp 37) (.tmp 43) 30 3 (.int .i64 0) 8 rfl Try.underlying30 info3 rfl (by decide) (by omega) (.slice none 0 0) ([] : List Int) (rd t184 x14_1) [.int .i64 (rd t184 x14_1)] (fun k_ => some k_ ≠ (u13 : Value).ownBlock ∧ some k_ ≠ (.slice Ao21 t188.length co21 : Value).ownBlock) (fun _ => False) rfl rfl ?aP (fun _ hk => hk.elim) ?aF ?aO ?aB ?aS ?aL ?_; (case aP => exact rfl); (case aB => exact (by repeat (first | (with_reducible first | exact HB.out | apply below_alloc | apply pw_below_drewN | apply below_drew1 | refine below_set ?_ GE191.out | refine below_set ?_ GE192.out) | exact HB.out))); (case aF => exact (fun k_ hk => ⟨Kd.fresh' (Kd.R_lt (by (with_reducible repeat (first | apply Kd.R_alloc | apply Kd.R_drewN | apply Kd.R_drew)); exact HO_13.out)) k_ hk, Kd.fresh' (Kd.R_lt (by (with_reducible repeat (first | apply Kd.R_alloc | apply Kd.R_drewN | apply Kd.R_drew)); exact HO_193001.out)) k_ hk⟩)); (case aO => exact ((Kd.R_nil _ _ _ _ (fun k_ => some k_ ≠ (u13 : Value).ownBlock ∧ some k_ ≠ (.slice Ao21 t188.length co21 : Value).ownBlock)))); (case aS => exact (below_size (by repeat (first | (with_reducible first | exact HB.out | apply below_alloc | apply pw_below_drewN | apply below_drew1 | refine below_set ?_ GE191.out | refine below_set ?_ GE192.out) | exact HB.out)))); (case aL => have := LMc25.out; omega); intro v195 w30 ho hb hg hat; rw [← Ny194.out] at ho; have n0_ := Aside0.mk (Kd.V_afterv (Kd.V_apart_nil (by (with_reducible repeat (first | apply Kd.V_alloc | apply Kd.V_drewN | apply Kd.V_drew)); exact HO_12.out)) hg hat); have n1_ := Aside0.mk (Kd.R_after (Kd.R_apart_nil (by (with_reducible repeat (first | apply Kd.R_alloc | apply Kd.R_drewN | apply Kd.R_drew)); exact HO_13.out)) hg hat); have n2_ := Aside0.mk (Kd.V_afterv (Kd.V_apart_nil (by (with_reducible repeat (first | apply Kd.V_alloc | apply Kd.V_drewN | apply Kd.V_drew)); exact HO_192001.out)) hg hat); have n3_ := Aside0.mk (Kd.R_after (Kd.R_apart_nil (by (with_reducible repeat (first | apply Kd.R_alloc | apply Kd.R_drewN | apply Kd.R_drew)); exact HO_193001.out)) hg hat); have n4_ := Aside0.mk (blk_grown (g := gb191) (o := .cells #[.bool t183, .slice (some ad193) t184.length co19] 32 (0, 0)) (by (with_reducible repeat (first | refine blk_drewN ?_ _ | refine blk_drew ?_ | refine blk_alloc ?_ _)); exact BK191.out) hg (by simp [Value.ownBlock])); have n5_ := Aside0.mk (blk_grown (g := gb192) (o := .cells #[.bool t187, .slice Ao21 t188.length co21] 32 (0, 0)) (by (with_reducible repeat (first | refine blk_drewN ?_ _ | refine blk_drew ?_ | refine blk_alloc ?_ _)); exact BK192.out) hg (by simp [Value.ownBlock])); have n6_ := Aside0.mk (hb); have n7_ := Aside0.mk (ho); clear HO_12; clear HO_13; clear HO_192001; clear HO_193001; clear BK191; clear BK192; clear HB; have HO_12 := n0_; have HO_13 := n1_; have HO_192001 := n2_; have HO_193001 := n3_; have BK191 := n4_; have BK192 := n5_; have HB := n6_; have HO196 := n7_; clear n0_ n1_ n2_ n3_ n4_ n5_ n6_ n7_; clear ho hb hg hat; obtain ⟨Ao32, co32, eo32⟩ := Kd.V_slice HO_12.out; subst eo32) | ((with_reducible refine gate_builtin (b := .append) (xs := #[.tmp 45, .tmp 46]) rfl ?_); (try (refine gate_guard (by rfl) ?_; dsimp only)); at_builtin; refine Kd.R_append_rows (Kd.int .i64) (w0 := w) w.heap.size rfl (.tmp 45) (.tmp 46) 30 3 (.int .i64 0) 8 rfl Try.underlying30 info3 rfl (by decide) (by omega) v195 y194 x12_1 _ _ _ (fun k_ => some k_ ≠ (u13 : Value).ownBlock ∧ some k_ ≠ (.slice Ao21 t188.length co21 : Value).ownBlock) (fun _ => False) rfl rfl ?aO ?aR (fun _ _ h => h) (fun _ h => h.elim) ?aF ?aB ?aS ?aL ?_; (case aR => repeat (first | exact (Kd.V_reads' HO_12.out).2.2 | (with_reducible refine Kd.C_alloc ?_ _) | (with_reducible refine Kd.C_drewN ?_ _) | (with_reducible refine Kd.C_drew ?_))); (case aB => exact (by repeat (first | (with_reducible first | exact HB.out | apply below_alloc | apply pw_below_drewN | apply below_drew1 | refine below_set ?_ GE191.out | refine below_set ?_ GE192.out) | exact HB.out))); (case aF => exact (fun k_ hk => ⟨Kd.fresh' (Kd.R_lt (by (with_reducible repeat (first | apply Kd.R_alloc | apply Kd.R_drewN | apply Kd.R_drew)); exact HO_13.out)) k_ hk, Kd.fresh' (Kd.R_lt (by (with_reducible repeat (first | apply Kd.R_alloc | apply Kd.R_drewN | apply Kd.R_drew)); exact HO_193001.out)) k_ hk⟩)); (case aO => exact (by (with_reducible repeat (first | apply Kd.R_alloc | apply Kd.R_drewN | apply Kd.R_drew)); exact HO196.out)); (case aS => exact (below_size (by repeat (first | (with_reducible first | exact HB.out | apply below_alloc | apply pw_below_drewN | apply below_drew1 | refine below_set ?_ GE191.out | refine below_set ?_ GE192.out) | exact HB.out)))); (case aL => have := LMc26.out; omega); intro v198 w31 ho hb hg hat; rw [← Ny197.out] at ho; have n0_ := Aside0.mk (Kd.V_afterv (ok := (fun k_ => some k_ ≠ (u13 : Value).ownBlock ∧ some k_ ≠ (.slice Ao21 t188.length co21 : Value).ownBlock ∧ k_ ≠ gb191 ∧ k_ ≠ gb192)) (by (with_reducible repeat (first | apply Kd.V_alloc | apply Kd.V_drewN | apply Kd.V_drew)); exact HO_12.out) hg hat); have n1_ := Aside0.mk (Kd.R_after (ok := (fun k_ => some k_ ≠ (.slice Ao21 t188.length co21 : Value).ownBlock)) (by (with_reducible repeat (first | apply Kd.R_alloc | apply Kd.R_drewN | apply Kd.R_drew)); exact HO_13.out) hg hat); have n2_ := Aside0.mk (Kd.V_afterv (ok := (fun k_ => some k_ ≠ (u13 : Value).ownBlock ∧ some k_ ≠ (.slice Ao21 t188.length co21 : Value).ownBlock ∧ k_ ≠ gb191 ∧ k_ ≠ gb192)) (by (with_reducible repeat (first | apply Kd.V_alloc | apply Kd.V_drewN | apply Kd.V_drew)); exact HO_192001.out) hg hat); have n3_ := Aside0.mk (Kd.R_after (ok := (fun k_ => some k_ ≠ (u13 : Value).ownBlock)) (by (with_reducible repeat (first | apply Kd.R_alloc | apply Kd.R_drewN | apply Kd.R_drew)); exact HO_193001.out) hg hat); have n4_ := Aside0.mk (blk_grown (g := gb191) (o := .cells #[.bool t183, .slice (some ad193) t184.length co19] 32 (0, 0)) (by (with_reducible repeat (first | refine blk_drewN ?_ _ | refine blk_drew ?_ | refine blk_alloc ?_ _)); exact BK191.out) hg (Kd.R_ne HO196.out BK191.out (by decide))); have n5_ := Aside0.mk (blk_grown (g := gb192) (o := .cells #[.bool t187, .slice Ao21 t188.length co21] 32 (0, 0)) (by (with_reducible repeat (first | refine blk_drewN ?_ _ | refine blk_drew ?_ | refine blk_alloc ?_ _)); exact BK192.out) hg (Kd.R_ne HO196.out BK192.out (by decide))); have n6_ := Aside0.mk (hb); have n7_ := Aside0.mk (ho); clear HO_12; clear HO_13; clear HO_192001; clear HO_193001; clear BK191; clear BK192; clear HB; clear HO196; have HO_12 := n0_; have HO_13 := n1_; have HO_192001 := n2_; have HO_193001 := n3_; have BK191 := n4_; have BK192 := n5_; have HB := n6_; have HO199 := n7_; clear n0_ n1_ n2_ n3_ n4_ n5_ n6_ n7_; clear ho hb hg hat; obtain ⟨Ao33, co33, eo33⟩ := Kd.R_slice HO199.out; subst eo33) | ((with_reducible refine gate_callee (f := 24) rfl ?_); refine goesL_ (some 48) rfl rfl Try.func24 (by kernel_rfl) rfl #[.slice Ao33 y197.length co33] rfl (by (try simp only [List.map_toArray, List.map_cons, List.map_nil]); first | done | rfl | (simp only [List.length_drop, List.length_take]; rfl)) ?_; (with_reducible refine (paymasterref02_trim.calls k1 (fun k_ => some k_ = (.slice Ao33 y197.length co33 : Value).ownBlock) _ _ y197 t200 _ ?side1 A27.out).mono ?_); (case side1 => exact Kd.R_V (Kd.R_tight rfl (Kd.R_types (Kd.R_types (HO199.out) BK191.out (by decide)) BK192.out (by decide)))); rintro e w34 ⟨v201, rfl, ho0, hb⟩; refine ⟨_, rfl, ?_⟩; have n0_ := Aside0.mk (Kd.V_below (by (with_reducible repeat (first | apply Kd.V_alloc | apply Kd.V_drewN | apply Kd.V_drew)); exact HO_12.out) hb); have n1_ := Aside0.mk (Kd.R_below (by (with_reducible repeat (first | apply Kd.R_alloc | apply Kd.R_drewN | apply Kd.R_drew)); exact HO_13.out) hb); have n2_ := Aside0.mk (Kd.V_below (by (with_reducible repeat (first | apply Kd.V_alloc | apply Kd.V_drewN | apply Kd.V_drew)); exact HO_192001.out) hb); have n3_ := Aside0.mk (Kd.R_below (by (with_reducible repeat (first | apply Kd.R_alloc | apply Kd.R_drewN | apply Kd.R_drew)); exact HO_193001.out) hb); have n4_ := Aside0.mk (Kd.R_below (by (with_reducible repeat (first | apply Kd.R_alloc | apply Kd.R_drewN | apply Kd.R_drew)); exact HO199.out) hb); have n5_ := Aside0.mk (Kd.V_lower (Kd.V_mono (ok' := fun k_ => some k_ ≠ (u13 : Value).ownBlock ∧ some k_ ≠ (.slice Ao21 t188.length co21 : Value).ownBlock ∧ k_ ≠ gb191 ∧ k_ ≠ gb192) ho0 (fun k_ hk_ => ⟨Or.elim hk_ (fun hs_ => ((Kd.R_types (Kd.R_types (HO199.out) BK191.out (by decide)) BK192.out (by decide)).1 k_ hs_.symm).1.1.1) (fun hn_ => (Kd.fresh' (Kd.R_lt (by (with_reducible repeat (first | apply Kd.R_alloc | apply Kd.R_drewN | apply Kd.R_drew)); exact HO_13.out)) k_ hn_)), Or.elim hk_ (fun hs_ => ((Kd.R_types (Kd.R_types (HO199.out) BK191.out (by decide)) BK192.out (by decide)).1 k_ hs_.symm).1.1.2) (fun hn_ => (Kd.fresh' (Kd.R_lt (by (with_reducible repeat (first | apply Kd.R_alloc | apply Kd.R_drewN | apply Kd.R_drew)); exact HO_193001.out)) k_ hn_)), Or.elim hk_ (fun hs_ => ((Kd.R_types (Kd.R_types (HO199.out) BK191.out (by decide)) BK192.out (by decide)).1 k_ hs_.symm).1.2) (fun hn_ => (Kd.freshB (g := gb191) (o := .cells #[.bool t183, .slice (some ad193) t184.length co19] 32 (0, 0)) (by (with_reducible repeat (first | refine blk_drewN ?_ _ | refine blk_drew ?_ | refine blk_alloc ?_ _)); exact BK191.out) k_ hn_)), Or.elim hk_ (fun hs_ => ((Kd.R_types (Kd.R_types (HO199.out) BK191.out (by decide)) BK192.out (by decide)).1 k_ hs_.symm).2) (fun hn_ => (Kd.freshB (g := gb192) (o := .cells #[.bool t187, .slice Ao21 t188.length co21] 32 (0, 0)) (by (with_reducible repeat (first | refine blk_drewN ?_ _ | refine blk_drew ?_ | refine blk_alloc ?_ _)); exact BK192.out) k_ hn_))⟩)) (below_size (by repeat (first | (with_reducible first | exact HB.out | apply below_alloc | apply pw_below_drewN | apply below_drew1 | refine below_set ?_ GE191.out | refine below_set ?_ GE192.out) | exact HB.out)))); have n6_ := Aside0.mk (blk_below (g := gb191) (o := .cells #[.bool t183, .slice (some ad193) t184.length co19] 32 (0, 0)) (by (with_reducible repeat (first | refine blk_drewN ?_ _ | refine blk_drew ?_ | refine blk_alloc ?_ _)); exact BK191.out) hb); have n7_ := Aside0.mk (blk_below (g := gb192) (o := .cells #[.bool t187, .slice Ao21 t188.length co21] 32 (0, 0)) (by (with_reducible repeat (first | refine blk_drewN ?_ _ | refine blk_drew ?_ | refine blk_alloc ?_ _)); exact BK192.out) hb); have n8_ := Aside0.mk (below_step (by repeat (first | (with_reducible first | exact HB.out | apply below_alloc | apply pw_below_drewN | apply below_drew1 | refine below_set ?_ GE191.out | refine below_set ?_ GE192.out) | exact HB.out)) hb); clear HO_12; clear HO_13; clear HO_192001; clear HO_193001; clear HO199; clear BK191; clear BK192; clear HB; have HO_12 := n0_; have HO_13 := n1_; have HO_192001 := n2_; have HO_193001 := n3_; have HO199 := n4_; have HO202 := n5_; have BK191 := n6_; have BK192 := n7_; have HB := n8_; clear n0_ n1_ n2_ n3_ n4_ n5_ n6_ n7_ n8_; (try clear hb); (try clear hb2); (try clear hk); (try clear hi); (try clear ho0)))
                go_loopg [12, 16] k1 (fun kq v12 v16 w' => ∃ (x12_2 : List Int) (x16_2 : Int), v16 = .int .i64 x16_2 ∧ Aside0 (paymasterref02_MulDiv.l1 kq a3 x12_2 x13_1 x14_1 x16_2 t183 t184 t187 t188 = some (r1, r2)) ∧ Aside0 (kq ≤ k1) ∧ Aside0 (Kd.V (Kd.int .i64) 3 w' w.heap.size (fun k_ => some k_ ≠ (u13 : Value).ownBlock ∧ some k_ ≠ ((.slice Ao21 t188.length co21) : Value).ownBlock ∧ k_ ≠ gb191 ∧ k_ ≠ gb192) v12 x12_2) ∧ Aside0 (Kd.R (Kd.int .i64) 3 w' w.heap.size (fun k_ => some k_ ≠ ((.slice Ao21 t188.length co21) : Value).ownBlock) u13 x13_1) ∧ Aside0 (Kd.V (Kd.int .i64) 3 w' w.heap.size (fun k_ => some k_ ≠ (u13 : Value).ownBlock ∧ some k_ ≠ ((.slice Ao21 t188.length co21) : Value).ownBlock ∧ k_ ≠ gb191 ∧ k_ ≠ gb192) (.slice (some ad193) t184.length co19) t184) ∧ Aside0 (Kd.R (Kd.int .i64) 3 w' w.heap.size (fun k_ => some k_ ≠ (u13 : Value).ownBlock) (.slice Ao21 t188.length co21) t188) ∧ Aside0 (w'.heap[gb191]? = some (.cells #[.bool t183, (.slice (some ad193) t184.length co19)] 32 (0, 0))) ∧ Aside0 (w'.heap[gb192]? = some (.cells #[.bool t187, (.slice Ao21 t188.length co21)] 32 (0, 0))) ∧ Aside0 (Below w.heap.size w w'))
                case atStart => exact ⟨(t200), (0), (by first | rfl | (simp; done) | (simp [*]; done)), H', ⟨Nat.le_refl _⟩, ⟨by (with_reducible repeat (first | apply Kd.V_alloc | apply Kd.V_drewN | apply Kd.V_drew)); exact HO202.out⟩, ⟨by (with_reducible repeat (first | apply Kd.R_alloc | apply Kd.R_drewN | apply Kd.R_drew)); exact Kd.R_mono HO_13.out (fun _ hk => hk.1)⟩, ⟨by (with_reducible repeat (first | apply Kd.V_alloc | apply Kd.V_drewN | apply Kd.V_drew)); exact Kd.V_mono HO_192001.out (fun _ hk => ⟨hk.1.1, ⟨hk.1.2.1, ⟨hk.1.2.2.1, hk.1.2.2.2⟩⟩⟩)⟩, ⟨by (with_reducible repeat (first | apply Kd.R_alloc | apply Kd.R_drewN | apply Kd.R_drew)); exact Kd.R_mono HO_193001.out (fun _ hk => hk.1)⟩, ⟨by (with_reducible repeat (first | refine blk_drewN ?_ _ | refine blk_drew ?_ | refine blk_alloc ?_ _)); exact BK191.out⟩, ⟨by (with_reducible repeat (first | refine blk_drewN ?_ _ | refine blk_drew ?_ | refine blk_alloc ?_ _)); exact BK192.out⟩, ⟨by repeat (first | (with_reducible first | exact HB.out | apply below_alloc | apply pw_below_drewN | apply below_drew1 | refine below_set ?_ GE191.out | refine below_set ?_ GE192.out) | exact HB.out)⟩⟩
                case round =>
                  clear H'
                  try clear c1
                  try clear p1
                  try clear q1
                  try clear hx1
                  try clear c2
                  try clear p2
                  try clear p6
                  try clear c13
                  try clear c15
                  try clear c16
                  try clear c17
                  try clear p19
                  try clear q19
                  try clear hx19
                  try clear c22
                  try clear c22b0
                  try clear c23
                  try clear c23b0
                  try clear c24
                  try clear c24b0
                  try clear c25
                  try clear c26
                  try clear c28
                  try clear hcz18_0
                  try clear hcz18_1
                  try clear hcz20_0
                  try clear hcz20_1
                  try clear hcz29_0
                  try clear hcz29_1
                  try clear hfz18_0
                  try clear hfz18_1
                  try clear hfz20_0
                  try clear hfz20_1
                  try clear hfz29_0
                  try clear hfz29_1
                  try clear hx193_0
                  try clear p193
                  try clear p2
                  try clear p6
                  try clear q193
                  obtain ⟨x12_2, x16_2, rfl, HA, HK2, HO_12, HO_13, HO_192001, HO_193001, BK191, BK192, HB⟩ := hrel
                  cases gk with
                  | zero => exact absurd HA.out (by simp [paymasterref02_MulDiv.l1])
                  | succ k2 =>
                    have H := HA.out
                    clear HA
                    simp only [paymasterref02_MulDiv.l1] at H
                    replace H := Option.bind_eq_some_iff.mp H
                    obtain ⟨t203, A350, H⟩ := H
                    replace H : (if t203 ≥ 0 then ((paymasterref02_less.f k2 x12_2 t188).bind fun t204 => (paymasterref02_MulDiv.l1 k2 a3 t204 x13_1 x14_1 (wrap64 (x16_2 + 1)) t183 t184 t187 t188)) else (if x13_1.length < 17592186044416 then (paymasterref02_MulDiv.l0 k2 a3 x12_2 (x13_1 ++ [x16_2]) (wrap64 (x14_1 - 1)) t183 t184 t187 t188) else (none))) = some (r1, r2) := H
                    have A35 := Aside0.mk A350
                    clear A350
                    by_cases c36 : t203 ≥ 0
                    · rw [if_pos c36] at H
                      have c36b0 : decide (0 ≤ t203) = true := decide_eq_true c36
                      clear c36
                      replace H := Option.bind_eq_some_iff.mp H
                      obtain ⟨t204, A370, H⟩ := H
                      replace H : (paymasterref02_MulDiv.l1 k2 a3 t204 x13_1 x14_1 (wrap64 (x16_2 + 1)) t183 t184 t187 t188) = some (r1, r2) := H
                      have A37 := Aside0.mk A370
                      clear A370
                      have H' := Aside0.mk H
                      clear H
                      have hnb38 := NB192_191.out
                      have hnc38 := NB191_192.out
                      have hcz39_0 : wr.cell? ⟨gb192, 0, none⟩ = some (.bool t187) := (blk_cell BK192.out 0).trans rfl
                      have hcz39_1 : wr.cell? ⟨gb192, 1, none⟩ = some (.slice Ao21 t188.length co21) := (blk_cell BK192.out 1).trans rfl
                      have hfz39_0 := blk_frozen BK192.out 0
                      have hfz39_1 := blk_frozen BK192.out 1
                      obtain ⟨Ao40, co40, eo40⟩ := Kd.V_slice HO_12.out
                      subst eo40
                      go_wp2_with (first | ((with_reducible refine gate_callee (f := 25) rfl ?_); refine goesL_ (some 52) rfl rfl Try.func25 (by kernel_rfl) rfl #[.slice Ao40 x12_2.length co40, .slice Ao21 t188.length co21] rfl (by (try simp only [List.map_toArray, List.map_cons, List.map_nil]); first | done | rfl | (simp only [List.length_drop, List.length_take]; rfl)) ?_; (with_reducible refine (paymasterref02_size.calls k2 _ _ x12_2 _ _ t188 t203 _ ?side1 ?side2 ?side3 ?side4 A35.out).mono ?_); (case side1 => repeat (first | exact (Kd.V_reads' HO_12.out).2.2 | (with_reducible refine Kd.C_alloc ?_ _) | (with_reducible refine Kd.C_drewN ?_ _) | (with_reducible refine Kd.C_drew ?_))); (case side2 => exact (Kd.V_reads' HO_12.out).2.1); (case side3 => repeat (first | exact (Kd.R_reads' HO_193001.out).2.2 | (with_reducible refine Kd.C_alloc ?_ _) | (with_reducible refine Kd.C_drewN ?_ _) | (with_reducible refine Kd.C_drew ?_))); (case side4 => exact (Kd.R_reads' HO_193001.out).2.1); rintro e w' ⟨rfl, ⟨nd, rfl⟩⟩; refine ⟨_, rfl, ?_⟩) | ((with_reducible refine gate_callee (f := 26) rfl ?_); refine goesL_ (some 57) rfl rfl Try.func26 (by kernel_rfl) rfl #[.slice Ao40 x12_2.length co40, .slice Ao21 t188.length co21] rfl (by (try simp only [List.map_toArray, List.map_cons, List.map_nil]); first | done | rfl | (simp only [List.length_drop, List.length_take]; rfl)) ?_; (with_reducible refine (paymasterref02_less.calls k2 _ _ x12_2 _ _ t188 t204 _ ?side1 ?side2 ?side3 ?side4 A37.out).mono ?_); (case side1 => repeat (first | exact (Kd.V_reads' HO_12.out).2.2 | (with_reducible refine Kd.C_alloc ?_ _) | (with_reducible refine Kd.C_drewN ?_ _) | (with_reducible refine Kd.C_drew ?_))); (case side2 => exact (Kd.V_reads' HO_12.out).2.1); (case side3 => repeat (first | exact (Kd.R_reads' HO_193001.out).2.2 | (with_reducible refine Kd.C_alloc ?_ _) | (with_reducible refine Kd.C_drewN ?_ _) | (with_reducible refine Kd.C_drew ?_))); (case side4 => exact (Kd.R_reads' HO_193001.out).2.1); rintro e w41 ⟨v205, rfl, ho0, hb⟩; refine ⟨_, rfl, ?_⟩; have n0_ := Aside0.mk (Kd.V_below (by (with_reducible repeat (first | apply Kd.V_alloc | apply Kd.V_drewN | apply Kd.V_drew)); exact HO_12.out) hb); have n1_ := Aside0.mk (Kd.R_below (by (with_reducible repeat (first | apply Kd.R_alloc | apply Kd.R_drewN | apply Kd.R_drew)); exact HO_13.out) hb); have n2_ := Aside0.mk (Kd.V_below (by (with_reducible repeat (first | apply Kd.V_alloc | apply Kd.V_drewN | apply Kd.V_drew)); exact HO_192001.out) hb); have n3_ := Aside0.mk (Kd.R_below (by (with_reducible repeat (first | apply Kd.R_alloc | apply Kd.R_drewN | apply Kd.R_drew)); exact HO_193001.out) hb); have n4_ := Aside0.mk (Kd.V_lower (Kd.V_mono (ok' := fun k_ => some k_ ≠ (u13 : Value).ownBlock ∧ some k_ ≠ (.slice Ao21 t188.length co21 : Value).ownBlock ∧ k_ ≠ gb191 ∧ k_ ≠ gb192) ho0 (fun k_ hk_ => ⟨(Kd.fresh' (Kd.R_lt (by (with_reducible repeat (first | apply Kd.R_alloc | apply Kd.R_drewN | apply Kd.R_drew)); exact HO_13.out)) k_ hk_), (Kd.fresh' (Kd.R_lt (by (with_reducible repeat (first | apply Kd.R_alloc | apply Kd.R_drewN | apply Kd.R_drew)); exact HO_193001.out)) k_ hk_), (Kd.freshB (g := gb191) (o := .cells #[.bool t183, .slice (some ad193) t184.length co19] 32 (0, 0)) (by (with_reducible repeat (first | refine blk_drewN ?_ _ | refine blk_drew ?_ | refine blk_alloc ?_ _)); exact BK191.out) k_ hk_), (Kd.freshB (g := gb192) (o := .cells #[.bool t187, .slice Ao21 t188.length co21] 32 (0, 0)) (by (with_reducible repeat (first | refine blk_drewN ?_ _ | refine blk_drew ?_ | refine blk_alloc ?_ _)); exact BK192.out) k_ hk_)⟩)) (below_size (by repeat (first | (with_reducible first | exact HB.out | apply below_alloc | apply pw_below_drewN | apply below_drew1 | refine below_set ?_ GE191.out | refine below_set ?_ GE192.out) | exact HB.out)))); have n5_ := Aside0.mk (blk_below (g := gb191) (o := .cells #[.bool t183, .slice (some ad193) t184.length co19] 32 (0, 0)) (by (with_reducible repeat (first | refine blk_drewN ?_ _ | refine blk_drew ?_ | refine blk_alloc ?_ _)); exact BK191.out) hb); have n6_ := Aside0.mk (blk_below (g := gb192) (o := .cells #[.bool t187, .slice Ao21 t188.length co21] 32 (0, 0)) (by (with_reducible repeat (first | refine blk_drewN ?_ _ | refine blk_drew ?_ | refine blk_alloc ?_ _)); exact BK192.out) hb); have n7_ := Aside0.mk (below_step (by repeat (first | (with_reducible first | exact HB.out | apply below_alloc | apply pw_below_drewN | apply below_drew1 | refine below_set ?_ GE191.out | refine below_set ?_ GE192.out) | exact HB.out)) hb); clear HO_12; clear HO_13; clear HO_192001; clear HO_193001; clear BK191; clear BK192; clear HB; have HO_12 := n0_; have HO_13 := n1_; have HO_192001 := n2_; have HO_193001 := n3_; have HO206 := n4_; have BK191 := n5_; have BK192 := n6_; have HB := n7_; clear n0_ n1_ n2_ n3_ n4_ n5_ n6_ n7_; (try clear hb); (try clear hb2); (try clear hk); (try clear hi); (try clear ho0)))
                      go_roundg k2
                      case measure => have := HK1.out; have := HK2.out; omega
                      case rel => exact ⟨(t204), (wrap64 (x16_2 + 1)), (by first | rfl | (simp; done) | (simp [*]; done)), H', ⟨by have := HK1.out; have := HK2.out; omega⟩, ⟨by (with_reducible repeat (first | apply Kd.V_alloc | apply Kd.V_drewN | apply Kd.V_drew)); exact HO206.out⟩, ⟨by (with_reducible repeat (first | apply Kd.R_alloc | apply Kd.R_drewN | apply Kd.R_drew)); exact HO_13.out⟩, ⟨by (with_reducible repeat (first | apply Kd.V_alloc | apply Kd.V_drewN | apply Kd.V_drew)); exact HO_192001.out⟩, ⟨by (with_reducible repeat (first | apply Kd.R_alloc | apply Kd.R_drewN | apply Kd.R_drew)); exact HO_193001.out⟩, ⟨by (with_reducible repeat (first | refine blk_drewN ?_ _ | refine blk_drew ?_ | refine blk_alloc ?_ _)); exact BK191.out⟩, ⟨by (with_reducible repeat (first | refine blk_drewN ?_ _ | refine blk_drew ?_ | refine blk_alloc ?_ _)); exact BK192.out⟩, ⟨by repeat (first | (with_reducible first | exact HB.out | apply below_alloc | apply pw_below_drewN | apply below_drew1 | refine below_set ?_ GE191.out | refine below_set ?_ GE192.out) | exact HB.out)⟩⟩
                    · rw [if_neg c36] at H
                      have c36b0 : decide (0 ≤ t203) = false := decide_eq_false c36
                      clear c36
                      by_cases c42 : x13_1.length < 17592186044416
                      · rw [if_pos c42] at H
                        have LMc42 := Aside0.mk c42
                        clear c42
                        obtain ⟨y207, hy207⟩ : ∃ y_ : List Int, y_ = (x13_1 ++ [x16_2]) := ⟨_, rfl⟩
                        replace H : (paymasterref02_MulDiv.l0 k2 a3 x12_2 y207 (wrap64 (x14_1 - 1)) t183 t184 t187 t188) = some (r1, r2) := by first | (rw [hy207]; with_reducible exact H) | (have H2_ := (Option.bind_some _ _).symm.trans H; rw [hy207]; with_reducible exact H2_) | (have H2_ := (Option.bind_some _ _).symm.trans H; with_reducible exact H2_) | with_reducible exact H | (rw [hy207]; exact H) | exact H
                        have Ny207 := Aside0.mk hy207
                        clear hy207
                        have H' := Aside0.mk H
                        clear H
                        have hnb43 := NB192_191.out
                        have hnc43 := NB191_192.out
                        have hcz44_0 : wr.cell? ⟨gb192, 0, none⟩ = some (.bool t187) := (blk_cell BK192.out 0).trans rfl
                        have hcz44_1 : wr.cell? ⟨gb192, 1, none⟩ = some (.slice Ao21 t188.length co21) := (blk_cell BK192.out 1).trans rfl
                        have hfz44_0 := blk_frozen BK192.out 0
                        have hfz44_1 := blk_frozen BK192.out 1
                        obtain ⟨Ao45, co45, eo45⟩ := Kd.V_slice HO_12.out
                        subst eo45
                        go_wp2_with (first | ((with_reducible refine gate_callee (f := 25) rfl ?_); refine goesL_ (some 52) rfl rfl Try.func25 (by kernel_rfl) rfl #[.slice Ao45 x12_2.length co45, .slice Ao21 t188.length co21] rfl (by (try simp only [List.map_toArray, List.map_cons, List.map_nil]); first | done | rfl | (simp only [List.length_drop, List.length_take]; rfl)) ?_; (with_reducible refine (paymasterref02_size.calls k2 _ _ x12_2 _ _ t188 t203 _ ?side1 ?side2 ?side3 ?side4 A35.out).mono ?_); (case side1 => repeat (first | exact (Kd.V_reads' HO_12.out).2.2 | (with_reducible refine Kd.C_alloc ?_ _) | (with_reducible refine Kd.C_drewN ?_ _) | (with_reducible refine Kd.C_drew ?_))); (case side2 => exact (Kd.V_reads' HO_12.out).2.1); (case side3 => repeat (first | exact (Kd.R_reads' HO_193001.out).2.2 | (with_reducible refine Kd.C_alloc ?_ _) | (with_reducible refine Kd.C_drewN ?_ _) | (with_reducible refine Kd.C_drew ?_))); (case side4 => exact (Kd.R_reads' HO_193001.out).2.1); rintro e w' ⟨rfl, ⟨nd, rfl⟩⟩; refine ⟨_, rfl, ?_⟩) | ((with_reducible refine gate_builtin (b := .append) (xs := #[.tmp 60, .tmp 62]) rfl ?_); (try (refine gate_guard (by rfl) ?_; dsimp only)); at_builtin; refine Kd.R_append (Kd.int .i64) (w0 := w) w.heap.size rfl (.tmp 60) (.tmp 62) 30 3 (.int .i64 0) 8 rfl Try.underlying30 info3 rfl (by decide) (by omega) u13 x13_1 x16_2 [.int .i64 x16_2] (fun k_ => some k_ ≠ (.slice Ao21 t188.length co21 : Value).ownBlock) (fun _ => False) rfl rfl ?aP (fun _ hk => hk.elim) ?aF ?aO ?aB ?aS ?aL ?_; (case aP => exact rfl); (case aB => exact (by repeat (first | (with_reducible first | exact HB.out | apply below_alloc | apply pw_below_drewN | apply below_drew1 | refine below_set ?_ GE191.out | refine below_set ?_ GE192.out) | exact HB.out))); (case aF => exact (fun k_ hk => Kd.fresh' (Kd.R_lt (by (with_reducible repeat (first | apply Kd.R_alloc | apply Kd.R_drewN | apply Kd.R_drew)); exact HO_193001.out)) k_ hk)); (case aO => exact (by (with_reducible repeat (first | apply Kd.R_alloc | apply Kd.R_drewN | apply Kd.R_drew)); exact HO_13.out)); (case aS => exact (below_size (by repeat (first | (with_reducible first | exact HB.out | apply below_alloc | apply pw_below_drewN | apply below_drew1 | refine below_set ?_ GE191.out | refine below_set ?_ GE192.out) | exact HB.out)))); (case aL => have := LMc42.out; omega); intro v208 w46 ho hb hg hat; rw [← Ny207.out] at ho; have n0_ := Aside0.mk (Kd.V_afterv (ok := (fun k_ => some k_ ≠ (.slice Ao21 t188.length co21 : Value).ownBlock ∧ k_ ≠ gb191 ∧ k_ ≠ gb192)) (by (with_reducible repeat (first | apply Kd.V_alloc | apply Kd.V_drewN | apply Kd.V_drew)); exact Kd.V_mono HO_12.out (fun _ hk => ⟨⟨hk.2.1, ⟨hk.2.2.1, hk.2.2.2⟩⟩, hk.1⟩)) hg hat); have n1_ := Aside0.mk (Kd.V_afterv (ok := (fun k_ => some k_ ≠ (.slice Ao21 t188.length co21 : Value).ownBlock ∧ k_ ≠ gb191 ∧ k_ ≠ gb192)) (by (with_reducible repeat (first | apply Kd.V_alloc | apply Kd.V_drewN | apply Kd.V_drew)); exact Kd.V_mono HO_192001.out (fun _ hk => ⟨⟨hk.2.1, ⟨hk.2.2.1, hk.2.2.2⟩⟩, hk.1⟩)) hg hat); have n2_ := Aside0.mk (Kd.R_after (ok := (fun _ => True)) (by (with_reducible repeat (first | apply Kd.R_alloc | apply Kd.R_drewN | apply Kd.R_drew)); exact Kd.R_mono HO_193001.out (fun _ hk => ⟨trivial, hk⟩)) hg hat); have n3_ := Aside0.mk (blk_grown (g := gb191) (o := .cells #[.bool t183, .slice (some ad193) t184.length co19] 32 (0, 0)) (by (with_reducible repeat (first | refine blk_drewN ?_ _ | refine blk_drew ?_ | refine blk_alloc ?_ _)); exact BK191.out) hg (Kd.R_ne HO_13.out BK191.out (by decide))); have n4_ := Aside0.mk (blk_grown (g := gb192) (o := .cells #[.bool t187, .slice Ao21 t188.length co21] 32 (0, 0)) (by (with_reducible repeat (first | refine blk_drewN ?_ _ | refine blk_drew ?_ | refine blk_alloc ?_ _)); exact BK192.out) hg (Kd.R_ne HO_13.out BK192.out (by decide))); have n5_ := Aside0.mk (hb); have n6_ := Aside0.mk (ho); clear HO_12; clear HO_192001; clear HO_193001; clear BK191; clear BK192; clear HB; clear HO_13; have HO_12 := n0_; have HO_192001 := n1_; have HO_193001 := n2_; have BK191 := n3_; have BK192 := n4_; have HB := n5_; have HO209 := n6_; clear n0_ n1_ n2_ n3_ n4_ n5_ n6_; clear ho hb hg hat))
                        go_roundg k2
                        case measure => have := HK1.out; have := HK2.out; omega
                        case rel => exact ⟨(x12_2), (y207), (wrap64 (x14_1 - 1)), (by first | rfl | (simp; done) | (simp [*]; done)), H', ⟨by have := HK1.out; have := HK2.out; omega⟩, ⟨by (with_reducible repeat (first | apply Kd.V_alloc | apply Kd.V_drewN | apply Kd.V_drew)); exact Kd.V_mono HO_12.out (fun _ hk => ⟨hk.2, ⟨hk.1.1, ⟨hk.1.2.1, hk.1.2.2⟩⟩⟩)⟩, ⟨by (with_reducible repeat (first | apply Kd.R_alloc | apply Kd.R_drewN | apply Kd.R_drew)); exact HO209.out⟩, ⟨by (with_reducible repeat (first | apply Kd.V_alloc | apply Kd.V_drewN | apply Kd.V_drew)); exact Kd.V_mono HO_192001.out (fun _ hk => ⟨hk.2, ⟨hk.1.1, ⟨hk.1.2.1, hk.1.2.2⟩⟩⟩)⟩, ⟨by (with_reducible repeat (first | apply Kd.R_alloc | apply Kd.R_drewN | apply Kd.R_drew)); exact Kd.R_mono HO_193001.out (fun _ hk => hk.2)⟩, ⟨by (with_reducible repeat (first | refine blk_drewN ?_ _ | refine blk_drew ?_ | refine blk_alloc ?_ _)); exact BK191.out⟩, ⟨by (with_reducible repeat (first | refine blk_drewN ?_ _ | refine blk_drew ?_ | refine blk_alloc ?_ _)); exact BK192.out⟩, ⟨by repeat (first | (with_reducible first | exact HB.out | apply below_alloc | apply pw_below_drewN | apply below_drew1 | refine below_set ?_ GE191.out | refine below_set ?_ GE192.out) | exact HB.out)⟩⟩
                      · rw [if_neg c42] at H
                        exact absurd H (by simp)
              · rw [if_neg c26] at H
                exact absurd H (by simp)
            · rw [if_neg c25] at H
              exact absurd H (by simp)
          · rw [if_neg c24] at H
            exact absurd H (by simp)
        · rw [if_neg c23] at H
          exact absurd H (by simp)
      · rw [if_neg c22] at H
        have c22b0 : decide (0 ≤ x14_1) = false := decide_eq_false c22
        clear c22
        have HC47 := Aside0.mk H
        clear H
        go_upto_region 14 with (fail)
        go_cut [17] (fun v17 wc => ∃ (kq : Nat) (x17_46 : Bool), v17 = .bool x17_46 ∧ Aside0 (paymasterref02_MulDiv.j2 kq a3 x12_1 x13_1 x17_46 t183 t184 t187 t188 = some (r1, r2)) ∧ Aside0 (kq ≤ k1) ∧ Aside0 (Kd.V (Kd.int .i64) 3 wc w.heap.size (fun k_ => some k_ ≠ (u13 : Value).ownBlock ∧ some k_ ≠ ((.slice Ao21 t188.length co21) : Value).ownBlock ∧ k_ ≠ gb191 ∧ k_ ≠ gb192) u12 x12_1) ∧ Aside0 (Kd.R (Kd.int .i64) 3 wc w.heap.size (fun k_ => some k_ ≠ ((.slice Ao21 t188.length co21) : Value).ownBlock) u13 x13_1) ∧ Aside0 (Kd.V (Kd.int .i64) 3 wc w.heap.size (fun k_ => some k_ ≠ (u13 : Value).ownBlock ∧ some k_ ≠ ((.slice Ao21 t188.length co21) : Value).ownBlock ∧ k_ ≠ gb191 ∧ k_ ≠ gb192) (.slice Ao19 t184.length co19) t184) ∧ Aside0 (Kd.R (Kd.int .i64) 3 wc w.heap.size (fun k_ => some k_ ≠ (u13 : Value).ownBlock) (.slice Ao21 t188.length co21) t188) ∧ Aside0 (wc.heap[gb191]? = some (.cells #[.bool t183, (.slice Ao19 t184.length co19)] 32 (0, 0))) ∧ Aside0 (wc.heap[gb192]? = some (.cells #[.bool t187, (.slice Ao21 t188.length co21)] 32 (0, 0))) ∧ Aside0 (Below w.heap.size w wc))
        case first =>
          have H := HC47.out
          clear HC47
          by_cases c48 : (x13_1.length : Int) > 0
          · rw [if_pos c48] at H
            have c48b0 : decide (0 < (x13_1.length : Int)) = true := decide_eq_true c48
            have c48b1 : decide (0 < x13_1.length) = true := decide_eq_true (by omega)
            clear c48
            (first | rw [c48b0] | (simp only [i64_w, i32_w]; rw [c48b0]) | skip)
            obtain ⟨ji49, hji49⟩ : ∃ j_ : Int, (wrap64 ((x13_1.length : Int) - 1)) = j_ := ⟨_, rfl⟩
            replace H : (if 0 ≤ (ji49) then (if (ji49) < (x13_1.length : Int) then (paymasterref02_MulDiv.j2 k1 a3 x12_1 x13_1 ((Int.tmod (rd x13_1 (ji49)) 2) == 1) t183 t184 t187 t188) else (none)) else (none)) = some (r1, r2) := by first | (rw [hji49] at H; exact H) | (simp only [hji49] at H ⊢; exact H)
            have hji49w : (IntKind.i64.wrap ((x13_1.length : Int) - 1)) = ji49 := (i64_w _).trans hji49
            by_cases c50 : 0 ≤ (ji49)
            · rw [if_pos c50] at H
              have c50b0 : decide (0 ≤ (ji49)) = true := decide_eq_true c50
              clear c50
              by_cases c51 : (ji49) < (x13_1.length : Int)
              · rw [if_pos c51] at H
                have c51b0 : decide ((ji49) < (x13_1.length : Int)) = true := decide_eq_true c51
                clear c51
                have H' := Aside0.mk H
                clear H
                obtain ⟨Ao52, co52, eo52⟩ := Kd.R_slice HO_13.out
                subst eo52
                have p210 : 0 ≤ ((ji49) : Int) := of_decide_eq_true (by first | (with_reducible assumption) | assumption)
                have q210 : (ji49) < (x13_1.length : Int) := of_decide_eq_true (by first | (with_reducible assumption) | assumption)
                obtain ⟨ad210, e210, hx210_0⟩ := Kd.at_int (Kd.R_reads' HO_13.out).2.2 (ji49) p210 q210
                cases e210
                replace p210 := eq_true p210
                replace q210 := eq_true q210
                go_wp2
                go_meet
                case rel => exact ⟨_, (((Int.tmod (rd x13_1 (ji49)) 2) == 1)), (by first | rfl | (simp; done) | (simp only [← hji49] <;> (first | rfl | simp)) | (simp [*]; done)), H', ⟨by have := HK1.out; first | omega | exact Nat.le_refl _⟩, ⟨by (with_reducible repeat (first | apply Kd.V_alloc | apply Kd.V_drewN | apply Kd.V_drew)); exact HO_12.out⟩, ⟨by (with_reducible repeat (first | apply Kd.R_alloc | apply Kd.R_drewN | apply Kd.R_drew)); exact HO_13.out⟩, ⟨by (with_reducible repeat (first | apply Kd.V_alloc | apply Kd.V_drewN | apply Kd.V_drew)); exact HO_192001.out⟩, ⟨by (with_reducible repeat (first | apply Kd.R_alloc | apply Kd.R_drewN | apply Kd.R_drew)); exact HO_193001.out⟩, ⟨by (with_reducible repeat (first | refine blk_drewN ?_ _ | refine blk_drew ?_ | refine blk_alloc ?_ _)); exact BK191.out⟩, ⟨by (with_reducible repeat (first | refine blk_drewN ?_ _ | refine blk_drew ?_ | refine blk_alloc ?_ _)); exact BK192.out⟩, ⟨by repeat (first | (with_reducible first | exact HB.out | apply below_alloc | apply pw_below_drewN | apply below_drew1 | refine below_set ?_ GE191.out | refine below_set ?_ GE192.out) | exact HB.out)⟩⟩
              · rw [if_neg c51] at H
                exact absurd H (by simp)
            · rw [if_neg c50] at H
              exact absurd H (by simp)
          · rw [if_neg c48] at H
            have c48b0 : decide (0 < (x13_1.length : Int)) = false := decide_eq_false c48
            have c48b1 : decide (0 < x13_1.length) = false := decide_eq_false (by omega)
            clear c48
            (first | rw [c48b0] | (simp only [i64_w, i32_w]; rw [c48b0]) | skip)
            have H' := Aside0.mk H
            clear H
            obtain ⟨Ao53, co53, eo53⟩ := Kd.R_slice HO_13.out
            subst eo53
            go_wp2
            go_meet
            case rel => exact ⟨_, (false), (by first | rfl | (simp; done) | (simp [*]; done)), H', ⟨by have := HK1.out; first | omega | exact Nat.le_refl _⟩, ⟨by (with_reducible repeat (first | apply Kd.V_alloc | apply Kd.V_drewN | apply Kd.V_drew)); exact HO_12.out⟩, ⟨by (with_reducible repeat (first | apply Kd.R_alloc | apply Kd.R_drewN | apply Kd.R_drew)); exact HO_13.out⟩, ⟨by (with_reducible repeat (first | apply Kd.V_alloc | apply Kd.V_drewN | apply Kd.V_drew)); exact HO_192001.out⟩, ⟨by (with_reducible repeat (first | apply Kd.R_alloc | apply Kd.R_drewN | apply Kd.R_drew)); exact HO_193001.out⟩, ⟨by (with_reducible repeat (first | refine blk_drewN ?_ _ | refine blk_drew ?_ | refine blk_alloc ?_ _)); exact BK191.out⟩, ⟨by (with_reducible repeat (first | refine blk_drewN ?_ _ | refine blk_drew ?_ | refine blk_alloc ?_ _)); exact BK192.out⟩, ⟨by repeat (first | (with_reducible first | exact HB.out | apply below_alloc | apply pw_below_drewN | apply below_drew1 | refine below_set ?_ GE191.out | refine below_set ?_ GE192.out) | exact HB.out)⟩⟩
        case rest =>
          clear HC47
          try clear c1
          try clear p1
          try clear q1
          try clear hx1
          try clear c2
          try clear p2
          try clear q2
          try clear hx2
          try clear c3
          try clear c4
          try clear c5
          try clear p6
          try clear c13
          try clear c15
          try clear c16
          try clear c17
          try clear p19
          try clear q19
          try clear hx19
          try clear p21
          try clear q21
          try clear hx21
          try clear c22
          try clear c22b0
          try clear c23
          try clear c23b0
          try clear c24
          try clear c24b0
          try clear c25
          try clear c26
          try clear c28
          try clear c36
          try clear c36b0
          try clear c38
          try clear c42
          try clear c43
          try clear c48
          try clear c48b0
          try clear c48b1
          try clear c50
          try clear c50b0
          try clear c51
          try clear c51b0
          try clear hcz18_0
          try clear hcz18_1
          try clear hcz20_0
          try clear hcz20_1
          try clear hcz29_0
          try clear hcz29_1
          try clear hcz39_0
          try clear hcz39_1
          try clear hcz44_0
          try clear hcz44_1
          try clear hfz18_0
          try clear hfz18_1
          try clear hfz20_0
          try clear hfz20_1
          try clear hfz29_0
          try clear hfz29_1
          try clear hfz39_0
          try clear hfz39_1
          try clear hfz44_0
          try clear hfz44_1
          try clear hx193_0
          try clear hx210_0
          try clear p1
          try clear p19
          try clear p193
          try clear p2
          try clear p210
          try clear p6
          try clear q1
          try clear q19
          try clear q193
          try clear q210
          obtain ⟨kq, x17_46, rfl, HA, HJ46, HO_12, HO_13, HO_192001, HO_193001, BK191, BK192, HB⟩ := hcut
          cases kq with
          | zero => exact absurd HA.out (by simp [paymasterref02_MulDiv.j2])
          | succ kj46 =>
            have H := HA.out
            clear HA
            simp only [paymasterref02_MulDiv.j2] at H
            replace H := Option.bind_eq_some_iff.mp H
            obtain ⟨t211, A540, H⟩ := H
            replace H : ((paymasterref02_size.f kj46 t211 t188).bind fun t214 => (if a3 = 1 then (if (x12_1.length : Int) > 0 then (paymasterref02_MulDiv.j3 kj46 x13_1 true t183 t184 t187 t188) else (if a3 > 1 then (if t214 > 0 then (paymasterref02_MulDiv.j3 kj46 x13_1 true t183 t184 t187 t188) else (if t214 = 0 then (if a3 = 2 then (paymasterref02_MulDiv.j3 kj46 x13_1 true t183 t184 t187 t188) else (if a3 = 3 then (paymasterref02_MulDiv.j3 kj46 x13_1 x17_46 t183 t184 t187 t188) else (paymasterref02_MulDiv.j3 kj46 x13_1 false t183 t184 t187 t188))) else (paymasterref02_MulDiv.j3 kj46 x13_1 false t183 t184 t187 t188))) else (if t214 = 0 then (if a3 = 2 then (paymasterref02_MulDiv.j3 kj46 x13_1 true t183 t184 t187 t188) else (if a3 = 3 then (paymasterref02_MulDiv.j3 kj46 x13_1 x17_46 t183 t184 t187 t188) else (paymasterref02_MulDiv.j3 kj46 x13_1 false t183 t184 t187 t188))) else (paymasterref02_MulDiv.j3 kj46 x13_1 false t183 t184 t187 t188)))) else (if a3 > 1 then (if t214 > 0 then (paymasterref02_MulDiv.j3 kj46 x13_1 true t183 t184 t187 t188) else (if t214 = 0 then (if a3 = 2 then (paymasterref02_MulDiv.j3 kj46 x13_1 true t183 t184 t187 t188) else (if a3 = 3 then (paymasterref02_MulDiv.j3 kj46 x13_1 x17_46 t183 t184 t187 t188) else (paymasterref02_MulDiv.j3 kj46 x13_1 false t183 t184 t187 t188))) else (paymasterref02_MulDiv.j3 kj46 x13_1 false t183 t184 t187 t188))) else (if t214 = 0 then (if a3 = 2 then (paymasterref02_MulDiv.j3 kj46 x13_1 true t183 t184 t187 t188) else (if a3 = 3 then (paymasterref02_MulDiv.j3 kj46 x13_1 x17_46 t183 t184 t187 t188) else (paymasterref02_MulDiv.j3 kj46 x13_1 false t183 t184 t187 t188))) else (paymasterref02_MulDiv.j3 kj46 x13_1 false t183 t184 t187 t188))))) = some (r1, r2) := H
            have A54 := Aside0.mk A540
            clear A540
            replace H := Option.bind_eq_some_iff.mp H
            obtain ⟨t214, A550, H⟩ := H
            replace H : (if a3 = 1 then (if (x12_1.length : Int) > 0 then (paymasterref02_MulDiv.j3 kj46 x13_1 true t183 t184 t187 t188) else (if a3 > 1 then (if t214 > 0 then (paymasterref02_MulDiv.j3 kj46 x13_1 true t183 t184 t187 t188) else (if t214 = 0 then (if a3 = 2 then (paymasterref02_MulDiv.j3 kj46 x13_1 true t183 t184 t187 t188) else (if a3 = 3 then (paymasterref02_MulDiv.j3 kj46 x13_1 x17_46 t183 t184 t187 t188) else (paymasterref02_MulDiv.j3 kj46 x13_1 false t183 t184 t187 t188))) else (paymasterref02_MulDiv.j3 kj46 x13_1 false t183 t184 t187 t188))) else (if t214 = 0 then (if a3 = 2 then (paymasterref02_MulDiv.j3 kj46 x13_1 true t183 t184 t187 t188) else (if a3 = 3 then (paymasterref02_MulDiv.j3 kj46 x13_1 x17_46 t183 t184 t187 t188) else (paymasterref02_MulDiv.j3 kj46 x13_1 false t183 t184 t187 t188))) else (paymasterref02_MulDiv.j3 kj46 x13_1 false t183 t184 t187 t188)))) else (if a3 > 1 then (if t214 > 0 then (paymasterref02_MulDiv.j3 kj46 x13_1 true t183 t184 t187 t188) else (if t214 = 0 then (if a3 = 2 then (paymasterref02_MulDiv.j3 kj46 x13_1 true t183 t184 t187 t188) else (if a3 = 3 then (paymasterref02_MulDiv.j3 kj46 x13_1 x17_46 t183 t184 t187 t188) else (paymasterref02_MulDiv.j3 kj46 x13_1 false t183 t184 t187 t188))) else (paymasterref02_MulDiv.j3 kj46 x13_1 false t183 t184 t187 t188))) else (if t214 = 0 then (if a3 = 2 then (paymasterref02_MulDiv.j3 kj46 x13_1 true t183 t184 t187 t188) else (if a3 = 3 then (paymasterref02_MulDiv.j3 kj46 x13_1 x17_46 t183 t184 t187 t188) else (paymasterref02_MulDiv.j3 kj46 x13_1 false t183 t184 t187 t188))) else (paymasterref02_MulDiv.j3 kj46 x13_1 false t183 t184 t187 t188)))) = some (r1, r2) := H
            have A55 := Aside0.mk A550
            clear A550
            have HC56 := Aside0.mk H
            clear H
            try go_wp2
            have n0_ := Aside0.mk (Kd.V_drew HO_12.out)
            have n1_ := Aside0.mk (Kd.R_drew HO_13.out)
            have n2_ := Aside0.mk (Kd.V_drew HO_192001.out)
            have n3_ := Aside0.mk (Kd.R_drew HO_193001.out)
            have n4_ := Aside0.mk (blk_drew BK191.out)
            have n5_ := Aside0.mk (blk_drew BK192.out)
            have n6_ := Aside0.mk (below_drew1 HB.out)
            clear HO_12
            clear HO_13
            clear HO_192001
            clear HO_193001
            clear BK191
            clear BK192
            clear HB
            have HO_12 := n0_
            have HO_13 := n1_
            have HO_192001 := n2_
            have HO_193001 := n3_
            have BK191 := n4_
            have BK192 := n5_
            have HB := n6_
            clear n0_ n1_ n2_ n3_ n4_ n5_ n6_
            obtain ⟨Ao58, co58, eo58⟩ := Kd.V_slice HO_12.out
            (first | subst eo58 | (injection eo58 with f1_ f2_ f3_; have f4_ := f1_.symm; have f5_ := f3_.symm; clear f1_ f2_ f3_; subst f4_; subst f5_))
            refine start_ (n := 6) (S := fun w' => w'.cell? ⟨gb192, 0, none⟩ = some (.bool t187) ∧ w'.cell? ⟨gb192, 1, none⟩ = some (.slice Ao21 t188.length co21)) (ds := []) #[false, false, false, false, false, false] (by kernel_rfl) rfl rfl ⟨(blk_cell BK192.out 0).trans rfl, (blk_cell BK192.out 1).trans rfl⟩ (fun hHeld => ?_)
            generalize wc.drew = w57 at HO_12 HO_13 HO_192001 HO_193001 BK191 BK192 HB hHeld ⊢
            refine pure_ (i := 0) (N := some 77) (v := ?_) (a' := ?_) #[true, false, false, false, false, false] rfl rfl (by kernel_rfl) (fun _ _ _ h => h) (Or.inl ⟨by rfl, ?_⟩) ?_ ?_
            rotate_left
            · intro w'
              go_simp
              with_reducible rfl
            rotate_left
            · simp only [Act.put, List.setIfInBounds_toArray, List.set_cons_zero, List.set_cons_succ, i64_w, i32_w]
              rfl
            refine pure_ (i := 2) (N := some 79) (v := ?_) (a' := ?_) #[true, false, true, false, false, false] rfl rfl (by kernel_rfl) (fun _ _ _ h => h) (Or.inl ⟨by rfl, ?_⟩) ?_ ?_
            rotate_left
            · intro w'
              go_simp
              with_reducible rfl
            rotate_left
            · simp only [Act.put, List.setIfInBounds_toArray, List.set_cons_zero, List.set_cons_succ, i64_w, i32_w]
              rfl
            refine take_ (i := 3) (N := some 80) (v := ?_) (a' := ?_) #[true, false, true, true, false, false] rfl rfl (by kernel_rfl) (fun _ _ _ h => h) (Or.inl ⟨by rfl, ?_⟩) hHeld ?_ ?_
            rotate_left
            · rintro w' ⟨s0, s1⟩
              go_simp
              with_reducible rfl
            rotate_left
            · simp only [Act.put, List.setIfInBounds_toArray, List.set_cons_zero, List.set_cons_succ, i64_w, i32_w]
              rfl
            refine one_ (i := 1) (N := some 78) #[true, true, true, true, false, false] rfl rfl (by kernel_rfl) (by decide) (fun K hK => ?_)
            refine goes_ Try.func27 (by kernel_rfl) rfl #[.slice Ao58 x12_1.length co58] (by rfl) rfl rfl (by (try simp only [List.map_toArray, List.map_cons, List.map_nil]); first | done | rfl | (simp only [List.length_drop, List.length_take]; rfl)) ?_
            with_reducible refine (paymasterref02_double.calls kj46 _ _ x12_1 t211 _ ?side1 ?side2 A54.out).mono ?_
            (case side1 => repeat (first | exact (Kd.V_reads' HO_12.out).2.2 | (with_reducible refine Kd.C_alloc ?_ _) | (with_reducible refine Kd.C_drewN ?_ _) | (with_reducible refine Kd.C_drew ?_)))
            (case side2 => exact (Kd.V_reads' HO_12.out).2.1)
            rintro e w59 ⟨v212, rfl, ho0, hb⟩
            refine ⟨_, rfl, ?_⟩
            have n0_ := Aside0.mk (Kd.V_below (by (with_reducible repeat (first | apply Kd.V_alloc | apply Kd.V_drewN | apply Kd.V_drew)); exact HO_12.out) hb)
            have n1_ := Aside0.mk (Kd.R_below (by (with_reducible repeat (first | apply Kd.R_alloc | apply Kd.R_drewN | apply Kd.R_drew)); exact HO_13.out) hb)
            have n2_ := Aside0.mk (Kd.V_below (by (with_reducible repeat (first | apply Kd.V_alloc | apply Kd.V_drewN | apply Kd.V_drew)); exact HO_192001.out) hb)
            have n3_ := Aside0.mk (Kd.R_below (by (with_reducible repeat (first | apply Kd.R_alloc | apply Kd.R_drewN | apply Kd.R_drew)); exact HO_193001.out) hb)
            have n4_ := Aside0.mk (Kd.V_lower (Kd.V_mono (ok' := fun k_ => some k_ ≠ (u13 : Value).ownBlock ∧ some k_ ≠ (.slice Ao21 t188.length co21 : Value).ownBlock ∧ k_ ≠ gb191 ∧ k_ ≠ gb192) ho0 (fun k_ hk_ => ⟨(Kd.fresh' (Kd.R_lt (by (with_reducible repeat (first | apply Kd.R_alloc | apply Kd.R_drewN | apply Kd.R_drew)); exact HO_13.out)) k_ hk_), (Kd.fresh' (Kd.R_lt (by (with_reducible repeat (first | apply Kd.R_alloc | apply Kd.R_drewN | apply Kd.R_drew)); exact HO_193001.out)) k_ hk_), (Kd.freshB (g := gb191) (o := .cells #[.bool t183, .slice Ao19 t184.length co19] 32 (0, 0)) (by (with_reducible repeat (first | refine blk_drewN ?_ _ | refine blk_drew ?_ | refine blk_alloc ?_ _)); exact BK191.out) k_ hk_), (Kd.freshB (g := gb192) (o := .cells #[.bool t187, .slice Ao21 t188.length co21] 32 (0, 0)) (by (with_reducible repeat (first | refine blk_drewN ?_ _ | refine blk_drew ?_ | refine blk_alloc ?_ _)); exact BK192.out) k_ hk_)⟩)) (below_size (by repeat (first | (with_reducible first | exact HB.out | apply below_alloc | apply pw_below_drewN | apply below_drew1 | refine below_set ?_ GE191.out | refine below_set ?_ GE192.out) | exact HB.out))))
            have n5_ := Aside0.mk (blk_below (g := gb191) (o := .cells #[.bool t183, .slice Ao19 t184.length co19] 32 (0, 0)) (by (with_reducible repeat (first | refine blk_drewN ?_ _ | refine blk_drew ?_ | refine blk_alloc ?_ _)); exact BK191.out) hb)
            have n6_ := Aside0.mk (blk_below (g := gb192) (o := .cells #[.bool t187, .slice Ao21 t188.length co21] 32 (0, 0)) (by (with_reducible repeat (first | refine blk_drewN ?_ _ | refine blk_drew ?_ | refine blk_alloc ?_ _)); exact BK192.out) hb)
            have n7_ := Aside0.mk (below_step (by repeat (first | (with_reducible first | exact HB.out | apply below_alloc | apply pw_below_drewN | apply below_drew1 | refine below_set ?_ GE191.out | refine below_set ?_ GE192.out) | exact HB.out)) hb)
            clear HO_12
            clear HO_13
            clear HO_192001
            clear HO_193001
            clear BK191
            clear BK192
            clear HB
            have HO_12 := n0_
            have HO_13 := n1_
            have HO_192001 := n2_
            have HO_193001 := n3_
            have HO213 := n4_
            have BK191 := n5_
            have BK192 := n6_
            have HB := n7_
            clear n0_ n1_ n2_ n3_ n4_ n5_ n6_ n7_
            (try clear hb)
            (try clear hb2)
            (try clear hk)
            (try clear hi)
            (try clear ho0)
            obtain ⟨Ao60, co60, eo60⟩ := Kd.V_slice HO213.out
            (first | subst eo60 | (injection eo60 with f1_ f2_ f3_; have f4_ := f1_.symm; have f5_ := f3_.symm; clear f1_ f2_ f3_; subst f4_; subst f5_))
            refine hK.out _ _ ⟨(blk_cell BK192.out 0).trans rfl, (blk_cell BK192.out 1).trans rfl⟩ (fun hHeld => ?_)
            clear hK K
            refine norm_ (a' := ?_) ?_ ?_
            rotate_left
            · show Act.put _ (some 78) _ = _
              simp only [Act.put, List.setIfInBounds_toArray, List.set_cons_zero, List.set_cons_succ, i64_w, i32_w]
              rfl
            refine one_ (i := 4) (N := some 81) #[true, true, true, true, true, false] rfl rfl (by kernel_rfl) (by decide) (fun K hK => ?_)
            refine goes_ Try.func25 (by kernel_rfl) rfl #[.slice Ao60 t211.length co60, .slice Ao21 t188.length co21] (by rfl) rfl rfl (by (try simp only [List.map_toArray, List.map_cons, List.map_nil]); first | done | rfl | (simp only [List.length_drop, List.length_take]; rfl)) ?_
            with_reducible refine (paymasterref02_size.calls kj46 _ _ t211 _ _ t188 t214 _ ?side1 ?side2 ?side3 ?side4 A55.out).mono ?_
            (case side1 => repeat (first | exact (Kd.V_reads' HO213.out).2.2 | (with_reducible refine Kd.C_alloc ?_ _) | (with_reducible refine Kd.C_drewN ?_ _) | (with_reducible refine Kd.C_drew ?_)))
            (case side2 => exact (Kd.V_reads' HO213.out).2.1)
            (case side3 => repeat (first | exact (Kd.R_reads' HO_193001.out).2.2 | (with_reducible refine Kd.C_alloc ?_ _) | (with_reducible refine Kd.C_drewN ?_ _) | (with_reducible refine Kd.C_drew ?_)))
            (case side4 => exact (Kd.R_reads' HO_193001.out).2.1)
            rintro e w' ⟨rfl, ⟨nd, rfl⟩⟩
            refine ⟨_, rfl, ?_⟩
            refine hK.out _ _ ⟨(blk_cell BK192.out 0).trans rfl, (blk_cell BK192.out 1).trans rfl⟩ (fun hHeld => ?_)
            clear hK K
            refine norm_ (a' := ?_) ?_ ?_
            rotate_left
            · show Act.put _ (some 81) _ = _
              simp only [Act.put, List.setIfInBounds_toArray, List.set_cons_zero, List.set_cons_succ, i64_w, i32_w]
              rfl
            refine pure_ (i := 5) (N := some 18) (v := ?_) (a' := ?_) #[true, true, true, true, true, true] rfl rfl (by kernel_rfl) (fun _ _ _ h => h) (Or.inl ⟨by rfl, ?_⟩) ?_ ?_
            rotate_left
            · intro w'
              go_simp
              with_reducible rfl
            rotate_left
            · simp only [Act.put, List.setIfInBounds_toArray, List.set_cons_zero, List.set_cons_succ, i64_w, i32_w]
              rfl
            refine done_ (by kernel_rfl) ?_
            go_upto_region 16 with (fail)
            go_cut [19] (fun v19 wc => ∃ (kq : Nat) (x19_55 : Bool), v19 = .bool x19_55 ∧ Aside0 (paymasterref02_MulDiv.j3 kq x13_1 x19_55 t183 t184 t187 t188 = some (r1, r2)) ∧ Aside0 (kq ≤ kj46) ∧ Aside0 (Kd.R (Kd.int .i64) 3 wc w.heap.size (fun k_ => some k_ ≠ ((.slice Ao21 t188.length co21) : Value).ownBlock) u13 x13_1) ∧ Aside0 (Kd.V (Kd.int .i64) 3 wc w.heap.size (fun k_ => some k_ ≠ (u13 : Value).ownBlock ∧ some k_ ≠ ((.slice Ao21 t188.length co21) : Value).ownBlock ∧ k_ ≠ gb191 ∧ k_ ≠ gb192) (.slice Ao19 t184.length co19) t184) ∧ Aside0 (Kd.R (Kd.int .i64) 3 wc w.heap.size (fun k_ => some k_ ≠ (u13 : Value).ownBlock) (.slice Ao21 t188.length co21) t188) ∧ Aside0 (wc.heap[gb191]? = some (.cells #[.bool t183, (.slice Ao19 t184.length co19)] 32 (0, 0))) ∧ Aside0 (wc.heap[gb192]? = some (.cells #[.bool t187, (.slice Ao21 t188.length co21)] 32 (0, 0))) ∧ Aside0 (Below w.heap.size w wc))
            case first =>
              have H := HC56.out
              clear HC56
              by_cases c61 : a3 = 1
              · rw [if_pos c61] at H
                have c61b0 : (a3 == 1) = true := beq_iff_eq.mpr c61
                have c61b1 : (a3 != 1) = false := bne_eq_false_iff_eq.mpr c61
                clear c61
                (first | rw [c61b0] | (simp only [i64_w, i32_w]; rw [c61b0]) | skip)
                by_cases c62 : (x12_1.length : Int) > 0
                · rw [if_pos c62] at H
                  have c62b0 : decide (0 < (x12_1.length : Int)) = true := decide_eq_true c62
                  have c62b1 : decide (0 < x12_1.length) = true := decide_eq_true (by omega)
                  clear c62
                  have H' := Aside0.mk H
                  clear H
                  go_wp2
                  go_meet
                  case rel => exact ⟨_, (true), (by first | rfl | (simp; done) | (simp [*]; done)), H', ⟨by have := HK1.out; have := HJ46.out; first | omega | exact Nat.le_refl _⟩, ⟨by (with_reducible repeat (first | apply Kd.R_alloc | apply Kd.R_drewN | apply Kd.R_drew)); exact HO_13.out⟩, ⟨by (with_reducible repeat (first | apply Kd.V_alloc | apply Kd.V_drewN | apply Kd.V_drew)); exact HO_192001.out⟩, ⟨by (with_reducible repeat (first | apply Kd.R_alloc | apply Kd.R_drewN | apply Kd.R_drew)); exact HO_193001.out⟩, ⟨by (with_reducible repeat (first | refine blk_drewN ?_ _ | refine blk_drew ?_ | refine blk_alloc ?_ _)); exact BK191.out⟩, ⟨by (with_reducible repeat (first | refine blk_drewN ?_ _ | refine blk_drew ?_ | refine blk_alloc ?_ _)); exact BK192.out⟩, ⟨by repeat (first | (with_reducible first | exact HB.out | apply below_alloc | apply pw_below_drewN | apply below_drew1 | refine below_set ?_ GE191.out | refine below_set ?_ GE192.out) | exact HB.out)⟩⟩
                · rw [if_neg c62] at H
                  have c62b0 : decide (0 < (x12_1.length : Int)) = false := decide_eq_false c62
                  have c62b1 : decide (0 < x12_1.length) = false := decide_eq_false (by omega)
                  clear c62
                  by_cases c63 : a3 > 1
                  · rw [if_pos c63] at H
                    have c63b0 : decide (1 < a3) = true := decide_eq_true c63
                    clear c63
                    by_cases c64 : t214 > 0
                    · rw [if_pos c64] at H
                      have c64b0 : decide (0 < t214) = true := decide_eq_true c64
                      clear c64
                      have H' := Aside0.mk H
                      clear H
                      go_wp2
                      go_meet
                      case rel => exact ⟨_, (true), (by first | rfl | (simp; done) | (simp [*]; done)), H', ⟨by have := HK1.out; have := HJ46.out; first | omega | exact Nat.le_refl _⟩, ⟨by (with_reducible repeat (first | apply Kd.R_alloc | apply Kd.R_drewN | apply Kd.R_drew)); exact HO_13.out⟩, ⟨by (with_reducible repeat (first | apply Kd.V_alloc | apply Kd.V_drewN | apply Kd.V_drew)); exact HO_192001.out⟩, ⟨by (with_reducible repeat (first | apply Kd.R_alloc | apply Kd.R_drewN | apply Kd.R_drew)); exact HO_193001.out⟩, ⟨by (with_reducible repeat (first | refine blk_drewN ?_ _ | refine blk_drew ?_ | refine blk_alloc ?_ _)); exact BK191.out⟩, ⟨by (with_reducible repeat (first | refine blk_drewN ?_ _ | refine blk_drew ?_ | refine blk_alloc ?_ _)); exact BK192.out⟩, ⟨by repeat (first | (with_reducible first | exact HB.out | apply below_alloc | apply pw_below_drewN | apply below_drew1 | refine below_set ?_ GE191.out | refine below_set ?_ GE192.out) | exact HB.out)⟩⟩
                    · rw [if_neg c64] at H
                      have c64b0 : decide (0 < t214) = false := decide_eq_false c64
                      clear c64
                      by_cases c65 : t214 = 0
                      · rw [if_pos c65] at H
                        have c65b0 : (t214 == 0) = true := beq_iff_eq.mpr c65
                        have c65b1 : (t214 != 0) = false := bne_eq_false_iff_eq.mpr c65
                        clear c65
                        by_cases c66 : a3 = 2
                        · rw [if_pos c66] at H
                          have c66b0 : (a3 == 2) = true := beq_iff_eq.mpr c66
                          have c66b1 : (a3 != 2) = false := bne_eq_false_iff_eq.mpr c66
                          clear c66
                          have H' := Aside0.mk H
                          clear H
                          go_wp2
                          go_meet
                          case rel => exact ⟨_, (true), (by first | rfl | (simp; done) | (simp [*]; done)), H', ⟨by have := HK1.out; have := HJ46.out; first | omega | exact Nat.le_refl _⟩, ⟨by (with_reducible repeat (first | apply Kd.R_alloc | apply Kd.R_drewN | apply Kd.R_drew)); exact HO_13.out⟩, ⟨by (with_reducible repeat (first | apply Kd.V_alloc | apply Kd.V_drewN | apply Kd.V_drew)); exact HO_192001.out⟩, ⟨by (with_reducible repeat (first | apply Kd.R_alloc | apply Kd.R_drewN | apply Kd.R_drew)); exact HO_193001.out⟩, ⟨by (with_reducible repeat (first | refine blk_drewN ?_ _ | refine blk_drew ?_ | refine blk_alloc ?_ _)); exact BK191.out⟩, ⟨by (with_reducible repeat (first | refine blk_drewN ?_ _ | refine blk_drew ?_ | refine blk_alloc ?_ _)); exact BK192.out⟩, ⟨by repeat (first | (with_reducible first | exact HB.out | apply below_alloc | apply pw_below_drewN | apply below_drew1 | refine below_set ?_ GE191.out | refine below_set ?_ GE192.out) | exact HB.out)⟩⟩
                        · rw [if_neg c66] at H
                          have c66b0 : (a3 == 2) = false := beq_eq_false_iff_ne.mpr c66
                          have c66b1 : (a3 != 2) = true := bne_iff_ne.mpr c66
                          by_cases c67 : a3 = 3
                          · rw [if_pos c67] at H
                            have c67b0 : (a3 == 3) = true := beq_iff_eq.mpr c67
                            have c67b1 : (a3 != 3) = false := bne_eq_false_iff_eq.mpr c67
                            clear c67
                            have H' := Aside0.mk H
                            clear H
                            go_wp2
                            go_meet
                            case rel => exact ⟨_, (x17_46), (by first | rfl | (simp; done) | (simp [*]; done)), H', ⟨by have := HK1.out; have := HJ46.out; first | omega | exact Nat.le_refl _⟩, ⟨by (with_reducible repeat (first | apply Kd.R_alloc | apply Kd.R_drewN | apply Kd.R_drew)); exact HO_13.out⟩, ⟨by (with_reducible repeat (first | apply Kd.V_alloc | apply Kd.V_drewN | apply Kd.V_drew)); exact HO_192001.out⟩, ⟨by (with_reducible repeat (first | apply Kd.R_alloc | apply Kd.R_drewN | apply Kd.R_drew)); exact HO_193001.out⟩, ⟨by (with_reducible repeat (first | refine blk_drewN ?_ _ | refine blk_drew ?_ | refine blk_alloc ?_ _)); exact BK191.out⟩, ⟨by (with_reducible repeat (first | refine blk_drewN ?_ _ | refine blk_drew ?_ | refine blk_alloc ?_ _)); exact BK192.out⟩, ⟨by repeat (first | (with_reducible first | exact HB.out | apply below_alloc | apply pw_below_drewN | apply below_drew1 | refine below_set ?_ GE191.out | refine below_set ?_ GE192.out) | exact HB.out)⟩⟩
                          · rw [if_neg c67] at H
                            have c67b0 : (a3 == 3) = false := beq_eq_false_iff_ne.mpr c67
                            have c67b1 : (a3 != 3) = true := bne_iff_ne.mpr c67
                            have H' := Aside0.mk H
                            clear H
                            go_wp2
                            go_meet
                            case rel => exact ⟨_, (false), (by first | rfl | (simp; done) | (simp [*]; done)), H', ⟨by have := HK1.out; have := HJ46.out; first | omega | exact Nat.le_refl _⟩, ⟨by (with_reducible repeat (first | apply Kd.R_alloc | apply Kd.R_drewN | apply Kd.R_drew)); exact HO_13.out⟩, ⟨by (with_reducible repeat (first | apply Kd.V_alloc | apply Kd.V_drewN | apply Kd.V_drew)); exact HO_192001.out⟩, ⟨by (with_reducible repeat (first | apply Kd.R_alloc | apply Kd.R_drewN | apply Kd.R_drew)); exact HO_193001.out⟩, ⟨by (with_reducible repeat (first | refine blk_drewN ?_ _ | refine blk_drew ?_ | refine blk_alloc ?_ _)); exact BK191.out⟩, ⟨by (with_reducible repeat (first | refine blk_drewN ?_ _ | refine blk_drew ?_ | refine blk_alloc ?_ _)); exact BK192.out⟩, ⟨by repeat (first | (with_reducible first | exact HB.out | apply below_alloc | apply pw_below_drewN | apply below_drew1 | refine below_set ?_ GE191.out | refine below_set ?_ GE192.out) | exact HB.out)⟩⟩
                      · rw [if_neg c65] at H
                        have c65b0 : (t214 == 0) = false := beq_eq_false_iff_ne.mpr c65
                        have c65b1 : (t214 != 0) = true := bne_iff_ne.mpr c65
                        have H' := Aside0.mk H
                        clear H
                        go_wp2
                        go_meet
                        case rel => exact ⟨_, (false), (by first | rfl | (simp; done) | (simp [*]; done)), H', ⟨by have := HK1.out; have := HJ46.out; first | omega | exact Nat.le_refl _⟩, ⟨by (with_reducible repeat (first | apply Kd.R_alloc | apply Kd.R_drewN | apply Kd.R_drew)); exact HO_13.out⟩, ⟨by (with_reducible repeat (first | apply Kd.V_alloc | apply Kd.V_drewN | apply Kd.V_drew)); exact HO_192001.out⟩, ⟨by (with_reducible repeat (first | apply Kd.R_alloc | apply Kd.R_drewN | apply Kd.R_drew)); exact HO_193001.out⟩, ⟨by (with_reducible repeat (first | refine blk_drewN ?_ _ | refine blk_drew ?_ | refine blk_alloc ?_ _)); exact BK191.out⟩, ⟨by (with_reducible repeat (first | refine blk_drewN ?_ _ | refine blk_drew ?_ | refine blk_alloc ?_ _)); exact BK192.out⟩, ⟨by repeat (first | (with_reducible first | exact HB.out | apply below_alloc | apply pw_below_drewN | apply below_drew1 | refine below_set ?_ GE191.out | refine below_set ?_ GE192.out) | exact HB.out)⟩⟩
                  · rw [if_neg c63] at H
                    have c63b0 : decide (1 < a3) = false := decide_eq_false c63
                    clear c63
                    by_cases c68 : t214 = 0
                    · rw [if_pos c68] at H
                      have c68b0 : (t214 == 0) = true := beq_iff_eq.mpr c68
                      have c68b1 : (t214 != 0) = false := bne_eq_false_iff_eq.mpr c68
                      clear c68
                      by_cases c69 : a3 = 2
                      · rw [if_pos c69] at H
                        have c69b0 : (a3 == 2) = true := beq_iff_eq.mpr c69
                        have c69b1 : (a3 != 2) = false := bne_eq_false_iff_eq.mpr c69
                        clear c69
                        have H' := Aside0.mk H
                        clear H
                        go_wp2
                        go_meet
                        case rel => exact ⟨_, (true), (by first | rfl | (simp; done) | (simp [*]; done)), H', ⟨by have := HK1.out; have := HJ46.out; first | omega | exact Nat.le_refl _⟩, ⟨by (with_reducible repeat (first | apply Kd.R_alloc | apply Kd.R_drewN | apply Kd.R_drew)); exact HO_13.out⟩, ⟨by (with_reducible repeat (first | apply Kd.V_alloc | apply Kd.V_drewN | apply Kd.V_drew)); exact HO_192001.out⟩, ⟨by (with_reducible repeat (first | apply Kd.R_alloc | apply Kd.R_drewN | apply Kd.R_drew)); exact HO_193001.out⟩, ⟨by (with_reducible repeat (first | refine blk_drewN ?_ _ | refine blk_drew ?_ | refine blk_alloc ?_ _)); exact BK191.out⟩, ⟨by (with_reducible repeat (first | refine blk_drewN ?_ _ | refine blk_drew ?_ | refine blk_alloc ?_ _)); exact BK192.out⟩, ⟨by repeat (first | (with_reducible first | exact HB.out | apply below_alloc | apply pw_below_drewN | apply below_drew1 | refine below_set ?_ GE191.out | refine below_set ?_ GE192.out) | exact HB.out)⟩⟩
                      · rw [if_neg c69] at H
                        have c69b0 : (a3 == 2) = false := beq_eq_false_iff_ne.mpr c69
                        have c69b1 : (a3 != 2) = true := bne_iff_ne.mpr c69
                        by_cases c70 : a3 = 3
                        · rw [if_pos c70] at H
                          have c70b0 : (a3 == 3) = true := beq_iff_eq.mpr c70
                          have c70b1 : (a3 != 3) = false := bne_eq_false_iff_eq.mpr c70
                          clear c70
                          have H' := Aside0.mk H
                          clear H
                          go_wp2
                          go_meet
                          case rel => exact ⟨_, (x17_46), (by first | rfl | (simp; done) | (simp [*]; done)), H', ⟨by have := HK1.out; have := HJ46.out; first | omega | exact Nat.le_refl _⟩, ⟨by (with_reducible repeat (first | apply Kd.R_alloc | apply Kd.R_drewN | apply Kd.R_drew)); exact HO_13.out⟩, ⟨by (with_reducible repeat (first | apply Kd.V_alloc | apply Kd.V_drewN | apply Kd.V_drew)); exact HO_192001.out⟩, ⟨by (with_reducible repeat (first | apply Kd.R_alloc | apply Kd.R_drewN | apply Kd.R_drew)); exact HO_193001.out⟩, ⟨by (with_reducible repeat (first | refine blk_drewN ?_ _ | refine blk_drew ?_ | refine blk_alloc ?_ _)); exact BK191.out⟩, ⟨by (with_reducible repeat (first | refine blk_drewN ?_ _ | refine blk_drew ?_ | refine blk_alloc ?_ _)); exact BK192.out⟩, ⟨by repeat (first | (with_reducible first | exact HB.out | apply below_alloc | apply pw_below_drewN | apply below_drew1 | refine below_set ?_ GE191.out | refine below_set ?_ GE192.out) | exact HB.out)⟩⟩
                        · rw [if_neg c70] at H
                          have c70b0 : (a3 == 3) = false := beq_eq_false_iff_ne.mpr c70
                          have c70b1 : (a3 != 3) = true := bne_iff_ne.mpr c70
                          have H' := Aside0.mk H
                          clear H
                          go_wp2
                          go_meet
                          case rel => exact ⟨_, (false), (by first | rfl | (simp; done) | (simp [*]; done)), H', ⟨by have := HK1.out; have := HJ46.out; first | omega | exact Nat.le_refl _⟩, ⟨by (with_reducible repeat (first | apply Kd.R_alloc | apply Kd.R_drewN | apply Kd.R_drew)); exact HO_13.out⟩, ⟨by (with_reducible repeat (first | apply Kd.V_alloc | apply Kd.V_drewN | apply Kd.V_drew)); exact HO_192001.out⟩, ⟨by (with_reducible repeat (first | apply Kd.R_alloc | apply Kd.R_drewN | apply Kd.R_drew)); exact HO_193001.out⟩, ⟨by (with_reducible repeat (first | refine blk_drewN ?_ _ | refine blk_drew ?_ | refine blk_alloc ?_ _)); exact BK191.out⟩, ⟨by (with_reducible repeat (first | refine blk_drewN ?_ _ | refine blk_drew ?_ | refine blk_alloc ?_ _)); exact BK192.out⟩, ⟨by repeat (first | (with_reducible first | exact HB.out | apply below_alloc | apply pw_below_drewN | apply below_drew1 | refine below_set ?_ GE191.out | refine below_set ?_ GE192.out) | exact HB.out)⟩⟩
                    · rw [if_neg c68] at H
                      have c68b0 : (t214 == 0) = false := beq_eq_false_iff_ne.mpr c68
                      have c68b1 : (t214 != 0) = true := bne_iff_ne.mpr c68
                      have H' := Aside0.mk H
                      clear H
                      go_wp2
                      go_meet
                      case rel => exact ⟨_, (false), (by first | rfl | (simp; done) | (simp [*]; done)), H', ⟨by have := HK1.out; have := HJ46.out; first | omega | exact Nat.le_refl _⟩, ⟨by (with_reducible repeat (first | apply Kd.R_alloc | apply Kd.R_drewN | apply Kd.R_drew)); exact HO_13.out⟩, ⟨by (with_reducible repeat (first | apply Kd.V_alloc | apply Kd.V_drewN | apply Kd.V_drew)); exact HO_192001.out⟩, ⟨by (with_reducible repeat (first | apply Kd.R_alloc | apply Kd.R_drewN | apply Kd.R_drew)); exact HO_193001.out⟩, ⟨by (with_reducible repeat (first | refine blk_drewN ?_ _ | refine blk_drew ?_ | refine blk_alloc ?_ _)); exact BK191.out⟩, ⟨by (with_reducible repeat (first | refine blk_drewN ?_ _ | refine blk_drew ?_ | refine blk_alloc ?_ _)); exact BK192.out⟩, ⟨by repeat (first | (with_reducible first | exact HB.out | apply below_alloc | apply pw_below_drewN | apply below_drew1 | refine below_set ?_ GE191.out | refine below_set ?_ GE192.out) | exact HB.out)⟩⟩
              · rw [if_neg c61] at H
                have c61b0 : (a3 == 1) = false := beq_eq_false_iff_ne.mpr c61
                have c61b1 : (a3 != 1) = true := bne_iff_ne.mpr c61
                (first | rw [c61b0] | (simp only [i64_w, i32_w]; rw [c61b0]) | skip)
                by_cases c71 : a3 > 1
                · rw [if_pos c71] at H
                  have c71b0 : decide (1 < a3) = true := decide_eq_true c71
                  clear c71
                  by_cases c72 : t214 > 0
                  · rw [if_pos c72] at H
                    have c72b0 : decide (0 < t214) = true := decide_eq_true c72
                    clear c72
                    have H' := Aside0.mk H
                    clear H
                    go_wp2
                    go_meet
                    case rel => exact ⟨_, (true), (by first | rfl | (simp; done) | (simp [*]; done)), H', ⟨by have := HK1.out; have := HJ46.out; first | omega | exact Nat.le_refl _⟩, ⟨by (with_reducible repeat (first | apply Kd.R_alloc | apply Kd.R_drewN | apply Kd.R_drew)); exact HO_13.out⟩, ⟨by (with_reducible repeat (first | apply Kd.V_alloc | apply Kd.V_drewN | apply Kd.V_drew)); exact HO_192001.out⟩, ⟨by (with_reducible repeat (first | apply Kd.R_alloc | apply Kd.R_drewN | apply Kd.R_drew)); exact HO_193001.out⟩, ⟨by (with_reducible repeat (first | refine blk_drewN ?_ _ | refine blk_drew ?_ | refine blk_alloc ?_ _)); exact BK191.out⟩, ⟨by (with_reducible repeat (first | refine blk_drewN ?_ _ | refine blk_drew ?_ | refine blk_alloc ?_ _)); exact BK192.out⟩, ⟨by repeat (first | (with_reducible first | exact HB.out | apply below_alloc | apply pw_below_drewN | apply below_drew1 | refine below_set ?_ GE191.out | refine below_set ?_ GE192.out) | exact HB.out)⟩⟩
                  · rw [if_neg c72] at H
                    have c72b0 : decide (0 < t214) = false := decide_eq_false c72
                    clear c72
                    by_cases c73 : t214 = 0
                    · rw [if_pos c73] at H
                      have c73b0 : (t214 == 0) = true := beq_iff_eq.mpr c73
                      have c73b1 : (t214 != 0) = false := bne_eq_false_iff_eq.mpr c73
                      clear c73
                      by_cases c74 : a3 = 2
                      · rw [if_pos c74] at H
                        have c74b0 : (a3 == 2) = true := beq_iff_eq.mpr c74
                        have c74b1 : (a3 != 2) = false := bne_eq_false_iff_eq.mpr c74
                        clear c74
                        have H' := Aside0.mk H
                        clear H
                        go_wp2
                        go_meet
                        case rel => exact ⟨_, (true), (by first | rfl | (simp; done) | (simp [*]; done)), H', ⟨by have := HK1.out; have := HJ46.out; first | omega | exact Nat.le_refl _⟩, ⟨by (with_reducible repeat (first | apply Kd.R_alloc | apply Kd.R_drewN | apply Kd.R_drew)); exact HO_13.out⟩, ⟨by (with_reducible repeat (first | apply Kd.V_alloc | apply Kd.V_drewN | apply Kd.V_drew)); exact HO_192001.out⟩, ⟨by (with_reducible repeat (first | apply Kd.R_alloc | apply Kd.R_drewN | apply Kd.R_drew)); exact HO_193001.out⟩, ⟨by (with_reducible repeat (first | refine blk_drewN ?_ _ | refine blk_drew ?_ | refine blk_alloc ?_ _)); exact BK191.out⟩, ⟨by (with_reducible repeat (first | refine blk_drewN ?_ _ | refine blk_drew ?_ | refine blk_alloc ?_ _)); exact BK192.out⟩, ⟨by repeat (first | (with_reducible first | exact HB.out | apply below_alloc | apply pw_below_drewN | apply below_drew1 | refine below_set ?_ GE191.out | refine below_set ?_ GE192.out) | exact HB.out)⟩⟩
                      · rw [if_neg c74] at H
                        have c74b0 : (a3 == 2) = false := beq_eq_false_iff_ne.mpr c74
                        have c74b1 : (a3 != 2) = true := bne_iff_ne.mpr c74
                        by_cases c75 : a3 = 3
                        · rw [if_pos c75] at H
                          have c75b0 : (a3 == 3) = true := beq_iff_eq.mpr c75
                          have c75b1 : (a3 != 3) = false := bne_eq_false_iff_eq.mpr c75
                          clear c75
                          have H' := Aside0.mk H
                          clear H
                          go_wp2
                          go_meet
                          case rel => exact ⟨_, (x17_46), (by first | rfl | (simp; done) | (simp [*]; done)), H', ⟨by have := HK1.out; have := HJ46.out; first | omega | exact Nat.le_refl _⟩, ⟨by (with_reducible repeat (first | apply Kd.R_alloc | apply Kd.R_drewN | apply Kd.R_drew)); exact HO_13.out⟩, ⟨by (with_reducible repeat (first | apply Kd.V_alloc | apply Kd.V_drewN | apply Kd.V_drew)); exact HO_192001.out⟩, ⟨by (with_reducible repeat (first | apply Kd.R_alloc | apply Kd.R_drewN | apply Kd.R_drew)); exact HO_193001.out⟩, ⟨by (with_reducible repeat (first | refine blk_drewN ?_ _ | refine blk_drew ?_ | refine blk_alloc ?_ _)); exact BK191.out⟩, ⟨by (with_reducible repeat (first | refine blk_drewN ?_ _ | refine blk_drew ?_ | refine blk_alloc ?_ _)); exact BK192.out⟩, ⟨by repeat (first | (with_reducible first | exact HB.out | apply below_alloc | apply pw_below_drewN | apply below_drew1 | refine below_set ?_ GE191.out | refine below_set ?_ GE192.out) | exact HB.out)⟩⟩
                        · rw [if_neg c75] at H
                          have c75b0 : (a3 == 3) = false := beq_eq_false_iff_ne.mpr c75
                          have c75b1 : (a3 != 3) = true := bne_iff_ne.mpr c75
                          have H' := Aside0.mk H
                          clear H
                          go_wp2
                          go_meet
                          case rel => exact ⟨_, (false), (by first | rfl | (simp; done) | (simp [*]; done)), H', ⟨by have := HK1.out; have := HJ46.out; first | omega | exact Nat.le_refl _⟩, ⟨by (with_reducible repeat (first | apply Kd.R_alloc | apply Kd.R_drewN | apply Kd.R_drew)); exact HO_13.out⟩, ⟨by (with_reducible repeat (first | apply Kd.V_alloc | apply Kd.V_drewN | apply Kd.V_drew)); exact HO_192001.out⟩, ⟨by (with_reducible repeat (first | apply Kd.R_alloc | apply Kd.R_drewN | apply Kd.R_drew)); exact HO_193001.out⟩, ⟨by (with_reducible repeat (first | refine blk_drewN ?_ _ | refine blk_drew ?_ | refine blk_alloc ?_ _)); exact BK191.out⟩, ⟨by (with_reducible repeat (first | refine blk_drewN ?_ _ | refine blk_drew ?_ | refine blk_alloc ?_ _)); exact BK192.out⟩, ⟨by repeat (first | (with_reducible first | exact HB.out | apply below_alloc | apply pw_below_drewN | apply below_drew1 | refine below_set ?_ GE191.out | refine below_set ?_ GE192.out) | exact HB.out)⟩⟩
                    · rw [if_neg c73] at H
                      have c73b0 : (t214 == 0) = false := beq_eq_false_iff_ne.mpr c73
                      have c73b1 : (t214 != 0) = true := bne_iff_ne.mpr c73
                      have H' := Aside0.mk H
                      clear H
                      go_wp2
                      go_meet
                      case rel => exact ⟨_, (false), (by first | rfl | (simp; done) | (simp [*]; done)), H', ⟨by have := HK1.out; have := HJ46.out; first | omega | exact Nat.le_refl _⟩, ⟨by (with_reducible repeat (first | apply Kd.R_alloc | apply Kd.R_drewN | apply Kd.R_drew)); exact HO_13.out⟩, ⟨by (with_reducible repeat (first | apply Kd.V_alloc | apply Kd.V_drewN | apply Kd.V_drew)); exact HO_192001.out⟩, ⟨by (with_reducible repeat (first | apply Kd.R_alloc | apply Kd.R_drewN | apply Kd.R_drew)); exact HO_193001.out⟩, ⟨by (with_reducible repeat (first | refine blk_drewN ?_ _ | refine blk_drew ?_ | refine blk_alloc ?_ _)); exact BK191.out⟩, ⟨by (with_reducible repeat (first | refine blk_drewN ?_ _ | refine blk_drew ?_ | refine blk_alloc ?_ _)); exact BK192.out⟩, ⟨by repeat (first | (with_reducible first | exact HB.out | apply below_alloc | apply pw_below_drewN | apply below_drew1 | refine below_set ?_ GE191.out | refine below_set ?_ GE192.out) | exact HB.out)⟩⟩
                · rw [if_neg c71] at H
                  have c71b0 : decide (1 < a3) = false := decide_eq_false c71
                  clear c71
                  by_cases c76 : t214 = 0
                  · rw [if_pos c76] at H
                    have c76b0 : (t214 == 0) = true := beq_iff_eq.mpr c76
                    have c76b1 : (t214 != 0) = false := bne_eq_false_iff_eq.mpr c76
                    clear c76
                    by_cases c77 : a3 = 2
                    · rw [if_pos c77] at H
                      have c77b0 : (a3 == 2) = true := beq_iff_eq.mpr c77
                      have c77b1 : (a3 != 2) = false := bne_eq_false_iff_eq.mpr c77
                      clear c77
                      have H' := Aside0.mk H
                      clear H
                      go_wp2
                      go_meet
                      case rel => exact ⟨_, (true), (by first | rfl | (simp; done) | (simp [*]; done)), H', ⟨by have := HK1.out; have := HJ46.out; first | omega | exact Nat.le_refl _⟩, ⟨by (with_reducible repeat (first | apply Kd.R_alloc | apply Kd.R_drewN | apply Kd.R_drew)); exact HO_13.out⟩, ⟨by (with_reducible repeat (first | apply Kd.V_alloc | apply Kd.V_drewN | apply Kd.V_drew)); exact HO_192001.out⟩, ⟨by (with_reducible repeat (first | apply Kd.R_alloc | apply Kd.R_drewN | apply Kd.R_drew)); exact HO_193001.out⟩, ⟨by (with_reducible repeat (first | refine blk_drewN ?_ _ | refine blk_drew ?_ | refine blk_alloc ?_ _)); exact BK191.out⟩, ⟨by (with_reducible repeat (first | refine blk_drewN ?_ _ | refine blk_drew ?_ | refine blk_alloc ?_ _)); exact BK192.out⟩, ⟨by repeat (first | (with_reducible first | exact HB.out | apply below_alloc | apply pw_below_drewN | apply below_drew1 | refine below_set ?_ GE191.out | refine below_set ?_ GE192.out) | exact HB.out)⟩⟩
                    · rw [if_neg c77] at H
                      have c77b0 : (a3 == 2) = false := beq_eq_false_iff_ne.mpr c77
                      have c77b1 : (a3 != 2) = true := bne_iff_ne.mpr c77
                      by_cases c78 : a3 = 3
                      · rw [if_pos c78] at H
                        have c78b0 : (a3 == 3) = true := beq_iff_eq.mpr c78
                        have c78b1 : (a3 != 3) = false := bne_eq_false_iff_eq.mpr c78
                        clear c78
                        have H' := Aside0.mk H
                        clear H
                        go_wp2
                        go_meet
                        case rel => exact ⟨_, (x17_46), (by first | rfl | (simp; done) | (simp [*]; done)), H', ⟨by have := HK1.out; have := HJ46.out; first | omega | exact Nat.le_refl _⟩, ⟨by (with_reducible repeat (first | apply Kd.R_alloc | apply Kd.R_drewN | apply Kd.R_drew)); exact HO_13.out⟩, ⟨by (with_reducible repeat (first | apply Kd.V_alloc | apply Kd.V_drewN | apply Kd.V_drew)); exact HO_192001.out⟩, ⟨by (with_reducible repeat (first | apply Kd.R_alloc | apply Kd.R_drewN | apply Kd.R_drew)); exact HO_193001.out⟩, ⟨by (with_reducible repeat (first | refine blk_drewN ?_ _ | refine blk_drew ?_ | refine blk_alloc ?_ _)); exact BK191.out⟩, ⟨by (with_reducible repeat (first | refine blk_drewN ?_ _ | refine blk_drew ?_ | refine blk_alloc ?_ _)); exact BK192.out⟩, ⟨by repeat (first | (with_reducible first | exact HB.out | apply below_alloc | apply pw_below_drewN | apply below_drew1 | refine below_set ?_ GE191.out | refine below_set ?_ GE192.out) | exact HB.out)⟩⟩
                      · rw [if_neg c78] at H
                        have c78b0 : (a3 == 3) = false := beq_eq_false_iff_ne.mpr c78
                        have c78b1 : (a3 != 3) = true := bne_iff_ne.mpr c78
                        have H' := Aside0.mk H
                        clear H
                        go_wp2
                        go_meet
                        case rel => exact ⟨_, (false), (by first | rfl | (simp; done) | (simp [*]; done)), H', ⟨by have := HK1.out; have := HJ46.out; first | omega | exact Nat.le_refl _⟩, ⟨by (with_reducible repeat (first | apply Kd.R_alloc | apply Kd.R_drewN | apply Kd.R_drew)); exact HO_13.out⟩, ⟨by (with_reducible repeat (first | apply Kd.V_alloc | apply Kd.V_drewN | apply Kd.V_drew)); exact HO_192001.out⟩, ⟨by (with_reducible repeat (first | apply Kd.R_alloc | apply Kd.R_drewN | apply Kd.R_drew)); exact HO_193001.out⟩, ⟨by (with_reducible repeat (first | refine blk_drewN ?_ _ | refine blk_drew ?_ | refine blk_alloc ?_ _)); exact BK191.out⟩, ⟨by (with_reducible repeat (first | refine blk_drewN ?_ _ | refine blk_drew ?_ | refine blk_alloc ?_ _)); exact BK192.out⟩, ⟨by repeat (first | (with_reducible first | exact HB.out | apply below_alloc | apply pw_below_drewN | apply below_drew1 | refine below_set ?_ GE191.out | refine below_set ?_ GE192.out) | exact HB.out)⟩⟩
                  · rw [if_neg c76] at H
                    have c76b0 : (t214 == 0) = false := beq_eq_false_iff_ne.mpr c76
                    have c76b1 : (t214 != 0) = true := bne_iff_ne.mpr c76
                    have H' := Aside0.mk H
                    clear H
                    go_wp2
                    go_meet
                    case rel => exact ⟨_, (false), (by first | rfl | (simp; done) | (simp [*]; done)), H', ⟨by have := HK1.out; have := HJ46.out; first | omega | exact Nat.le_refl _⟩, ⟨by (with_reducible repeat (first | apply Kd.R_alloc | apply Kd.R_drewN | apply Kd.R_drew)); exact HO_13.out⟩, ⟨by (with_reducible repeat (first | apply Kd.V_alloc | apply Kd.V_drewN | apply Kd.V_drew)); exact HO_192001.out⟩, ⟨by (with_reducible repeat (first | apply Kd.R_alloc | apply Kd.R_drewN | apply Kd.R_drew)); exact HO_193001.out⟩, ⟨by (with_reducible repeat (first | refine blk_drewN ?_ _ | refine blk_drew ?_ | refine blk_alloc ?_ _)); exact BK191.out⟩, ⟨by (with_reducible repeat (first | refine blk_drewN ?_ _ | refine blk_drew ?_ | refine blk_alloc ?_ _)); exact BK192.out⟩, ⟨by repeat (first | (with_reducible first | exact HB.out | apply below_alloc | apply pw_below_drewN | apply below_drew1 | refine below_set ?_ GE191.out | refine below_set ?_ GE192.out) | exact HB.out)⟩⟩
            case rest =>
              clear HC56
              try clear c1
              try clear p1
              try clear q1
              try clear hx1
              try clear c2
              try clear p2
              try clear q2
              try clear hx2
              try clear c3
              try clear c4
              try clear c5
              try clear c6
              try clear p6
              try clear c7
              try clear c13
              try clear c15
              try clear c16
              try clear c17
              try clear p19
              try clear q19
              try clear hx19
              try clear p21
              try clear q21
              try clear hx21
              try clear c22
              try clear c22b0
              try clear c23
              try clear c23b0
              try clear c24
              try clear c24b0
              try clear c25
              try clear c26
              try clear c27
              try clear c28
              try clear c36
              try clear c36b0
              try clear c38
              try clear c42
              try clear c43
              try clear c48
              try clear c48b0
              try clear c48b1
              try clear c50
              try clear c50b0
              try clear c51
              try clear c51b0
              try clear c61
              try clear c61b0
              try clear c61b1
              try clear c62
              try clear c62b0
              try clear c62b1
              try clear c63
              try clear c63b0
              try clear c64
              try clear c64b0
              try clear p64
              try clear c65
              try clear c65b0
              try clear c65b1
              try clear c66
              try clear c66b0
              try clear c66b1
              try clear c67
              try clear c67b0
              try clear c67b1
              try clear c68
              try clear c68b0
              try clear c68b1
              try clear c69
              try clear c69b0
              try clear c69b1
              try clear c70
              try clear c70b0
              try clear c70b1
              try clear c71
              try clear c71b0
              try clear c72
              try clear c72b0
              try clear c73
              try clear c73b0
              try clear c73b1
              try clear c74
              try clear c74b0
              try clear c74b1
              try clear c75
              try clear c75b0
              try clear c75b1
              try clear c76
              try clear c76b0
              try clear c76b1
              try clear c77
              try clear c77b0
              try clear c77b1
              try clear c78
              try clear c78b0
              try clear c78b1
              try clear hcz18_0
              try clear hcz18_1
              try clear hcz20_0
              try clear hcz20_1
              try clear hcz29_0
              try clear hcz29_1
              try clear hcz39_0
              try clear hcz39_1
              try clear hcz44_0
              try clear hcz44_1
              try clear hfz18_0
              try clear hfz18_1
              try clear hfz20_0
              try clear hfz20_1
              try clear hfz29_0
              try clear hfz29_1
              try clear hfz39_0
              try clear hfz39_1
              try clear hfz44_0
              try clear hfz44_1
              try clear hx193_0
              try clear hx210_0
              try clear p1
              try clear p19
              try clear p193
              try clear p2
              try clear p21
              try clear p210
              try clear p6
              try clear q1
              try clear q19
              try clear q193
              try clear q2
              try clear q21
              try clear q210
              obtain ⟨kq, x19_55, rfl, HA, HJ55, HO_13, HO_192001, HO_193001, BK191, BK192, HB⟩ := hcut
              cases kq with
              | zero => exact absurd HA.out (by simp [paymasterref02_MulDiv.j3])
              | succ kj55 =>
                have H := HA.out
                clear HA
                simp only [paymasterref02_MulDiv.j3] at H
                have H' := Aside0.mk H
                clear H
                go_wp2
                go_loopg [20, 21] kj55 (fun kq v20 v21 w' => ∃ (x20_4 : Int) (x21_4 : Int), v20 = .int .i64 x20_4 ∧ v21 = .int .i64 x21_4 ∧ Aside0 (paymasterref02_MulDiv.l2 kq x13_1 x19_55 x20_4 x21_4 t183 t184 t187 t188 = some (r1, r2)) ∧ Aside0 (kq ≤ kj55) ∧ Aside0 (Kd.R (Kd.int .i64) 3 w' w.heap.size (fun k_ => some k_ ≠ ((.slice Ao21 t188.length co21) : Value).ownBlock) u13 x13_1) ∧ Aside0 (Kd.V (Kd.int .i64) 3 w' w.heap.size (fun k_ => some k_ ≠ (u13 : Value).ownBlock ∧ some k_ ≠ ((.slice Ao21 t188.length co21) : Value).ownBlock ∧ k_ ≠ gb191 ∧ k_ ≠ gb192) (.slice Ao19 t184.length co19) t184) ∧ Aside0 (Kd.R (Kd.int .i64) 3 w' w.heap.size (fun k_ => some k_ ≠ (u13 : Value).ownBlock) (.slice Ao21 t188.length co21) t188) ∧ Aside0 (w'.heap[gb191]? = some (.cells #[.bool t183, (.slice Ao19 t184.length co19)] 32 (0, 0))) ∧ Aside0 (w'.heap[gb192]? = some (.cells #[.bool t187, (.slice Ao21 t188.length co21)] 32 (0, 0))) ∧ Aside0 (Below w.heap.size w w'))
                case atStart => exact ⟨(0), (0), (by first | rfl | (simp; done) | (simp [*]; done)), (by first | rfl | (simp; done) | (simp [*]; done)), H', ⟨Nat.le_refl _⟩, ⟨by (with_reducible repeat (first | apply Kd.R_alloc | apply Kd.R_drewN | apply Kd.R_drew)); exact HO_13.out⟩, ⟨by (with_reducible repeat (first | apply Kd.V_alloc | apply Kd.V_drewN | apply Kd.V_drew)); exact HO_192001.out⟩, ⟨by (with_reducible repeat (first | apply Kd.R_alloc | apply Kd.R_drewN | apply Kd.R_drew)); exact HO_193001.out⟩, ⟨by (with_reducible repeat (first | refine blk_drewN ?_ _ | refine blk_drew ?_ | refine blk_alloc ?_ _)); exact BK191.out⟩, ⟨by (with_reducible repeat (first | refine blk_drewN ?_ _ | refine blk_drew ?_ | refine blk_alloc ?_ _)); exact BK192.out⟩, ⟨by repeat (first | (with_reducible first | exact HB.out | apply below_alloc | apply pw_below_drewN | apply below_drew1 | refine below_set ?_ GE191.out | refine below_set ?_ GE192.out) | exact HB.out)⟩⟩
                case round =>
                  clear H'
                  try clear c1
                  try clear p1
                  try clear q1
                  try clear hx1
                  try clear c2
                  try clear p2
                  try clear q2
                  try clear hx2
                  try clear c3
                  try clear c4
                  try clear c5
                  try clear c6
                  try clear p6
                  try clear c7
                  try clear c13
                  try clear c15
                  try clear c16
                  try clear c17
                  try clear p19
                  try clear q19
                  try clear hx19
                  try clear p21
                  try clear q21
                  try clear hx21
                  try clear c22
                  try clear c22b0
                  try clear c23
                  try clear c23b0
                  try clear c24
                  try clear c24b0
                  try clear c25
                  try clear c26
                  try clear c27
                  try clear c28
                  try clear c36
                  try clear c36b0
                  try clear c38
                  try clear c42
                  try clear c43
                  try clear c48
                  try clear c48b0
                  try clear c48b1
                  try clear c50
                  try clear c50b0
                  try clear c51
                  try clear c51b0
                  try clear c61
                  try clear c61b0
                  try clear c61b1
                  try clear c62
                  try clear c62b0
                  try clear c62b1
                  try clear c63
                  try clear c63b0
                  try clear c64
                  try clear c64b0
                  try clear p64
                  try clear c65
                  try clear c65b0
                  try clear c65b1
                  try clear c66
                  try clear c66b0
                  try clear c66b1
                  try clear c67
                  try clear c67b0
                  try clear c67b1
                  try clear c68
                  try clear c68b0
                  try clear c68b1
                  try clear c69
                  try clear c69b0
                  try clear c69b1
                  try clear c70
                  try clear c70b0
                  try clear c70b1
                  try clear c71
                  try clear c71b0
                  try clear c72
                  try clear c72b0
                  try clear c73
                  try clear c73b0
                  try clear c73b1
                  try clear c74
                  try clear c74b0
                  try clear c74b1
                  try clear c75
                  try clear c75b0
                  try clear c75b1
                  try clear c76
                  try clear c76b0
                  try clear c76b1
                  try clear c77
                  try clear c77b0
                  try clear c77b1
                  try clear c78
                  try clear c78b0
                  try clear c78b1
                  try clear hcz18_0
                  try clear hcz18_1
                  try clear hcz20_0
                  try clear hcz20_1
                  try clear hcz29_0
                  try clear hcz29_1
                  try clear hcz39_0
                  try clear hcz39_1
                  try clear hcz44_0
                  try clear hcz44_1
                  try clear hfz18_0
                  try clear hfz18_1
                  try clear hfz20_0
                  try clear hfz20_1
                  try clear hfz29_0
                  try clear hfz29_1
                  try clear hfz39_0
                  try clear hfz39_1
                  try clear hfz44_0
                  try clear hfz44_1
                  try clear hx193_0
                  try clear hx210_0
                  try clear p1
                  try clear p19
                  try clear p193
                  try clear p2
                  try clear p21
                  try clear p210
                  try clear p6
                  try clear p64
                  try clear q1
                  try clear q19
                  try clear q193
                  try clear q2
                  try clear q21
                  try clear q210
                  obtain ⟨x20_4, x21_4, rfl, rfl, HA, HK4, HO_13, HO_192001, HO_193001, BK191, BK192, HB⟩ := hrel
                  cases gk with
                  | zero => exact absurd HA.out (by simp [paymasterref02_MulDiv.l2])
                  | succ k4 =>
                    have H := HA.out
                    clear HA
                    simp only [paymasterref02_MulDiv.l2] at H
                    by_cases c79 : x21_4 < (x13_1.length : Int)
                    · rw [if_pos c79] at H
                      have c79b0 : decide (x21_4 < (x13_1.length : Int)) = true := decide_eq_true c79
                      clear c79
                      by_cases c80 : 0 ≤ x21_4
                      · rw [if_pos c80] at H
                        have c80b0 : decide (0 ≤ x21_4) = true := decide_eq_true c80
                        clear c80
                        by_cases c81 : x20_4 > (wrap64 (Int.tdiv (wrap64 (9223372036854775807 - (rd x13_1 x21_4))) 10))
                        · rw [if_pos c81] at H
                          have c81b0 : decide ((wrap64 (Int.tdiv (wrap64 (9223372036854775807 - (rd x13_1 x21_4))) 10)) < x20_4) = true := decide_eq_true c81
                          clear c81
                          simp only [Option.some.injEq, Prod.mk.injEq] at H
                          obtain ⟨rfl, rfl⟩ := H
                          obtain ⟨Ao82, co82, eo82⟩ := Kd.R_slice HO_13.out
                          subst eo82
                          have p215 : 0 ≤ (x21_4 : Int) := of_decide_eq_true (by first | (with_reducible assumption) | assumption)
                          have q215 : x21_4 < (x13_1.length : Int) := of_decide_eq_true (by first | (with_reducible assumption) | assumption)
                          obtain ⟨ad215, e215, hx215_0⟩ := Kd.at_int (Kd.R_reads' HO_13.out).2.2 x21_4 p215 q215
                          cases e215
                          replace p215 := eq_true p215
                          replace q215 := eq_true q215
                          go_wp2
                          go_ret2
                          exact ⟨by first | rfl | (simp [errW_none, errW_some] <;> rfl) | (simp [*, errW_none, errW_some] <;> rfl), by repeat (first | (with_reducible first | exact HB.out | apply below_alloc | apply pw_below_drewN | apply below_drew1 | refine below_set ?_ GE191.out | refine below_set ?_ GE192.out) | exact HB.out)⟩
                        · rw [if_neg c81] at H
                          have c81b0 : decide ((wrap64 (Int.tdiv (wrap64 (9223372036854775807 - (rd x13_1 x21_4))) 10)) < x20_4) = false := decide_eq_false c81
                          clear c81
                          have H' := Aside0.mk H
                          clear H
                          obtain ⟨Ao83, co83, eo83⟩ := Kd.R_slice HO_13.out
                          subst eo83
                          have p215 : 0 ≤ (x21_4 : Int) := of_decide_eq_true (by first | (with_reducible assumption) | assumption)
                          have q215 : x21_4 < (x13_1.length : Int) := of_decide_eq_true (by first | (with_reducible assumption) | assumption)
                          obtain ⟨ad215, e215, hx215_0⟩ := Kd.at_int (Kd.R_reads' HO_13.out).2.2 x21_4 p215 q215
                          cases e215
                          replace p215 := eq_true p215
                          replace q215 := eq_true q215
                          have p216 : 0 ≤ (x21_4 : Int) := of_decide_eq_true (by first | (with_reducible assumption) | assumption)
                          have q216 : x21_4 < (x13_1.length : Int) := of_decide_eq_true (by first | (with_reducible assumption) | assumption)
                          obtain ⟨ad216, e216, hx216_0⟩ := Kd.at_int (Kd.R_reads' HO_13.out).2.2 x21_4 p216 q216
                          obtain rfl : ad215 = ad216 := (by injection e216)
                          replace p216 := eq_true p216
                          replace q216 := eq_true q216
                          go_wp2
                          go_roundg k4
                          case measure => have := HK1.out; have := HJ46.out; have := HJ55.out; have := HK4.out; omega
                          case rel => exact ⟨(wrap64 ((wrap64 (10 * x20_4)) + (rd x13_1 x21_4))), (wrap64 (x21_4 + 1)), (by first | rfl | (simp; done) | (simp [*]; done)), (by first | rfl | (simp; done) | (simp [*]; done)), H', ⟨by have := HK1.out; have := HJ46.out; have := HJ55.out; have := HK4.out; omega⟩, ⟨by (with_reducible repeat (first | apply Kd.R_alloc | apply Kd.R_drewN | apply Kd.R_drew)); exact HO_13.out⟩, ⟨by (with_reducible repeat (first | apply Kd.V_alloc | apply Kd.V_drewN | apply Kd.V_drew)); exact HO_192001.out⟩, ⟨by (with_reducible repeat (first | apply Kd.R_alloc | apply Kd.R_drewN | apply Kd.R_drew)); exact HO_193001.out⟩, ⟨by (with_reducible repeat (first | refine blk_drewN ?_ _ | refine blk_drew ?_ | refine blk_alloc ?_ _)); exact BK191.out⟩, ⟨by (with_reducible repeat (first | refine blk_drewN ?_ _ | refine blk_drew ?_ | refine blk_alloc ?_ _)); exact BK192.out⟩, ⟨by repeat (first | (with_reducible first | exact HB.out | apply below_alloc | apply pw_below_drewN | apply below_drew1 | refine below_set ?_ GE191.out | refine below_set ?_ GE192.out) | exact HB.out)⟩⟩
                      · rw [if_neg c80] at H
                        exact absurd H (by simp)
                    · rw [if_neg c79] at H
                      have c79b0 : decide (x21_4 < (x13_1.length : Int)) = false := decide_eq_false c79
                      clear c79
                      by_cases c84 : x19_55 = true
                      · subst c84
                        have H1 : (if x20_4 = 9223372036854775807 then (some (0, false)) else (if (t183 != t187) = true then (some (wrap64 (-(wrap64 (x20_4 + 1))), true)) else (some (wrap64 (x20_4 + 1), true)))) = some (r1, r2) := by rw [if_pos rfl] at H; exact H
                        clear H
                        have H := H1
                        clear H1
                        by_cases c85 : x20_4 = 9223372036854775807
                        · rw [if_pos c85] at H
                          have c85b0 : (x20_4 == 9223372036854775807) = true := beq_iff_eq.mpr c85
                          have c85b1 : (x20_4 != 9223372036854775807) = false := bne_eq_false_iff_eq.mpr c85
                          clear c85
                          simp only [Option.some.injEq, Prod.mk.injEq] at H
                          obtain ⟨rfl, rfl⟩ := H
                          obtain ⟨Ao86, co86, eo86⟩ := Kd.R_slice HO_13.out
                          subst eo86
                          go_wp2
                          go_ret2
                          exact ⟨by first | rfl | (simp [errW_none, errW_some] <;> rfl) | (simp [*, errW_none, errW_some] <;> rfl), by repeat (first | (with_reducible first | exact HB.out | apply below_alloc | apply pw_below_drewN | apply below_drew1 | refine below_set ?_ GE191.out | refine below_set ?_ GE192.out) | exact HB.out)⟩
                        · rw [if_neg c85] at H
                          have c85b0 : (x20_4 == 9223372036854775807) = false := beq_eq_false_iff_ne.mpr c85
                          have c85b1 : (x20_4 != 9223372036854775807) = true := bne_iff_ne.mpr c85
                          by_cases c87 : (t183 != t187) = true
                          · rw [if_pos c87] at H
                            have c87b0 : (t183 != t187) = true := c87
                            (try (have c87b1 : decide (t183 = t187) = false := by simpa using c87))
                            (try (have c87b2 : (t183 == t187) = false := by simpa using c87))
                            (try (have c87b3 : ¬ (t183 = t187) := by simpa using c87))
                            clear c87
                            simp only [Option.some.injEq, Prod.mk.injEq] at H
                            obtain ⟨rfl, rfl⟩ := H
                            obtain ⟨Ao88, co88, eo88⟩ := Kd.R_slice HO_13.out
                            subst eo88
                            have hnb89 := NB191_192.out
                            have hnc89 := NB192_191.out
                            have hcz90_0 : wr.cell? ⟨gb191, 0, none⟩ = some (.bool t183) := (blk_cell BK191.out 0).trans rfl
                            have hcz90_1 : wr.cell? ⟨gb191, 1, none⟩ = some (.slice Ao19 t184.length co19) := (blk_cell BK191.out 1).trans rfl
                            have hfz90_0 := blk_frozen BK191.out 0
                            have hfz90_1 := blk_frozen BK191.out 1
                            have hcz91_0 : wr.cell? ⟨gb192, 0, none⟩ = some (.bool t187) := (blk_cell BK192.out 0).trans rfl
                            have hcz91_1 : wr.cell? ⟨gb192, 1, none⟩ = some (.slice Ao21 t188.length co21) := (blk_cell BK192.out 1).trans rfl
                            have hfz91_0 := blk_frozen BK192.out 0
                            have hfz91_1 := blk_frozen BK192.out 1
                            go_wp2
                            go_ret2
                            exact ⟨by first | rfl | (simp [errW_none, errW_some] <;> rfl) | (simp [*, errW_none, errW_some] <;> rfl), by repeat (first | (with_reducible first | exact HB.out | apply below_alloc | apply pw_below_drewN | apply below_drew1 | refine below_set ?_ GE191.out | refine below_set ?_ GE192.out) | exact HB.out)⟩
                          · rw [if_neg c87] at H
                            have c87b0 : (t183 != t187) = false := by simpa using c87
                            (try (have c87b1 : decide (t183 = t187) = true := by simpa using c87))
                            (try (have c87b2 : (t183 == t187) = true := by simpa using c87))
                            clear c87
                            simp only [Option.some.injEq, Prod.mk.injEq] at H
                            obtain ⟨rfl, rfl⟩ := H
                            obtain ⟨Ao92, co92, eo92⟩ := Kd.R_slice HO_13.out
                            subst eo92
                            have hnb93 := NB191_192.out
                            have hnc93 := NB192_191.out
                            have hcz94_0 : wr.cell? ⟨gb191, 0, none⟩ = some (.bool t183) := (blk_cell BK191.out 0).trans rfl
                            have hcz94_1 : wr.cell? ⟨gb191, 1, none⟩ = some (.slice Ao19 t184.length co19) := (blk_cell BK191.out 1).trans rfl
                            have hfz94_0 := blk_frozen BK191.out 0
                            have hfz94_1 := blk_frozen BK191.out 1
                            have hcz95_0 : wr.cell? ⟨gb192, 0, none⟩ = some (.bool t187) := (blk_cell BK192.out 0).trans rfl
                            have hcz95_1 : wr.cell? ⟨gb192, 1, none⟩ = some (.slice Ao21 t188.length co21) := (blk_cell BK192.out 1).trans rfl
                            have hfz95_0 := blk_frozen BK192.out 0
                            have hfz95_1 := blk_frozen BK192.out 1
                            go_wp2
                            go_ret2
                            exact ⟨by first | rfl | (simp [errW_none, errW_some] <;> rfl) | (simp [*, errW_none, errW_some] <;> rfl), by repeat (first | (with_reducible first | exact HB.out | apply below_alloc | apply pw_below_drewN | apply below_drew1 | refine below_set ?_ GE191.out | refine below_set ?_ GE192.out) | exact HB.out)⟩
                      · replace c84 := Bool.eq_false_iff.mpr c84
                        subst c84
                        have H1 : (if (t183 != t187) = true then (some (wrap64 (-x20_4), true)) else (some (x20_4, true))) = some (r1, r2) := by rw [if_neg (show ¬ (false = true) by decide)] at H; exact H
                        clear H
                        have H := H1
                        clear H1
                        by_cases c96 : (t183 != t187) = true
                        · rw [if_pos c96] at H
                          have c96b0 : (t183 != t187) = true := c96
                          (try (have c96b1 : decide (t183 = t187) = false := by simpa using c96))
                          (try (have c96b2 : (t183 == t187) = false := by simpa using c96))
                          (try (have c96b3 : ¬ (t183 = t187) := by simpa using c96))
                          clear c96
                          simp only [Option.some.injEq, Prod.mk.injEq] at H
                          obtain ⟨rfl, rfl⟩ := H
                          obtain ⟨Ao97, co97, eo97⟩ := Kd.R_slice HO_13.out
                          subst eo97
                          have hnb98 := NB191_192.out
                          have hnc98 := NB192_191.out
                          have hcz99_0 : wr.cell? ⟨gb191, 0, none⟩ = some (.bool t183) := (blk_cell BK191.out 0).trans rfl
                          have hcz99_1 : wr.cell? ⟨gb191, 1, none⟩ = some (.slice Ao19 t184.length co19) := (blk_cell BK191.out 1).trans rfl
                          have hfz99_0 := blk_frozen BK191.out 0
                          have hfz99_1 := blk_frozen BK191.out 1
                          have hcz100_0 : wr.cell? ⟨gb192, 0, none⟩ = some (.bool t187) := (blk_cell BK192.out 0).trans rfl
                          have hcz100_1 : wr.cell? ⟨gb192, 1, none⟩ = some (.slice Ao21 t188.length co21) := (blk_cell BK192.out 1).trans rfl
                          have hfz100_0 := blk_frozen BK192.out 0
                          have hfz100_1 := blk_frozen BK192.out 1
                          go_wp2
                          go_ret2
                          exact ⟨by first | rfl | (simp [errW_none, errW_some] <;> rfl) | (simp [*, errW_none, errW_some] <;> rfl), by repeat (first | (with_reducible first | exact HB.out | apply below_alloc | apply pw_below_drewN | apply below_drew1 | refine below_set ?_ GE191.out | refine below_set ?_ GE192.out) | exact HB.out)⟩
                        · rw [if_neg c96] at H
                          have c96b0 : (t183 != t187) = false := by simpa using c96
                          (try (have c96b1 : decide (t183 = t187) = true := by simpa using c96))
                          (try (have c96b2 : (t183 == t187) = true := by simpa using c96))
                          clear c96
                          simp only [Option.some.injEq, Prod.mk.injEq] at H
                          obtain ⟨rfl, rfl⟩ := H
                          obtain ⟨Ao101, co101, eo101⟩ := Kd.R_slice HO_13.out
                          subst eo101
                          have hnb102 := NB191_192.out
                          have hnc102 := NB192_191.out
                          have hcz103_0 : wr.cell? ⟨gb191, 0, none⟩ = some (.bool t183) := (blk_cell BK191.out 0).trans rfl
                          have hcz103_1 : wr.cell? ⟨gb191, 1, none⟩ = some (.slice Ao19 t184.length co19) := (blk_cell BK191.out 1).trans rfl
                          have hfz103_0 := blk_frozen BK191.out 0
                          have hfz103_1 := blk_frozen BK191.out 1
                          have hcz104_0 : wr.cell? ⟨gb192, 0, none⟩ = some (.bool t187) := (blk_cell BK192.out 0).trans rfl
                          have hcz104_1 : wr.cell? ⟨gb192, 1, none⟩ = some (.slice Ao21 t188.length co21) := (blk_cell BK192.out 1).trans rfl
                          have hfz104_0 := blk_frozen BK192.out 0
                          have hfz104_1 := blk_frozen BK192.out 1
                          go_wp2
                          go_ret2
                          exact ⟨by first | rfl | (simp [errW_none, errW_some] <;> rfl) | (simp [*, errW_none, errW_some] <;> rfl), by repeat (first | (with_reducible first | exact HB.out | apply below_alloc | apply pw_below_drewN | apply below_drew1 | refine below_set ?_ GE191.out | refine below_set ?_ GE192.out) | exact HB.out)⟩

end Go.Proofs.Ytdochofgoobicaa.PA
