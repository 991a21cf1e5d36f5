/- Contracts of the functions of the given program: written by wip/pmprint.py, a program of this session, which runs the print of the kit over altered functions. -/
import Derived.Test.YtkfhclichfjhmaaPAx0
import Derived.Test.YtkfhclichfjhmaaPAx2
import Derived.Test.YtkfhclichfjhmaaPAx3
import Derived.Test.YtkfhclichfjhmaaPAx6
import Derived.Test.YtkfhclichfjhmaaPAx8
namespace Go.Proofs.Ytkfhclichfjhmaa.PA
open Go.RowKit Go.Proofs.YtkfhclichfjhmaaW.PrintWords Go.Proofs.YtkfhclichfjhmaaW.PrintLast Go.Proofs.YtkfhclichfjhmaaW.PrintMore
attribute [local go_sem] max2_int min2_int max_two min_two max_three min_three max_four min_four   -- for this text's walks alone
set_option linter.unusedVariables false
set_option linter.unusedSimpArgs false

/-! ### paymasterlaw06_DatesPeriods: function 9 -/
def paymasterlaw06_DatesPeriods.f (k : Nat) (a0 : Int) (a1 : Int) (a2 : Int) : Option (Bool) := (dates_Period.f k (wrap64 (1900 + (Int.tmod (wrap64 (a0)) 1099))) (wrap64 (1 + (wrap64 (Int.tmod a1 12)))) (wrap64 (1 + (wrap64 (Int.tmod a2 28))))).bind fun bt224 => ((dates_Period.f k (wrap64 ((wrap64 (1900 + (Int.tmod (wrap64 (a0)) 1099))) + 1)) (wrap64 (1 + (wrap64 (Int.tmod a1 12)))) (wrap64 (1 + (wrap64 (Int.tmod a2 28))))).bind fun bt227 => ((dates_Length.f k (wrap64 (1900 + (Int.tmod (wrap64 (a0)) 1099))) (wrap64 (1 + (wrap64 (Int.tmod a1 12))))).bind fun t229 => (if bt224.2 = true then (if bt227.2 = true then (if bt227.1 = (wrap64 (bt224.1 + 12)) then ((dates_Days.f k (wrap64 (1900 + (Int.tmod (wrap64 (a0)) 1099))) (wrap64 (1 + (wrap64 (Int.tmod a1 12)))) 1 (wrap64 (1900 + (Int.tmod (wrap64 (a0)) 1099))) (wrap64 (1 + (wrap64 (Int.tmod a1 12)))) t229 bt224.1).bind fun t232 => (if t232 = t229 then ((dates_Days.f k (wrap64 (1900 + (Int.tmod (wrap64 (a0)) 1099))) (wrap64 (1 + (wrap64 (Int.tmod a1 12)))) 1 (wrap64 (1900 + (Int.tmod (wrap64 (a0)) 1099))) (wrap64 (1 + (wrap64 (Int.tmod a1 12)))) t229 (wrap64 (bt224.1 + 1))).bind fun t233 => (if t233 = 0 then ((dates_Days.f k (wrap64 (1900 + (Int.tmod (wrap64 (a0)) 1099))) (wrap64 (1 + (wrap64 (Int.tmod a1 12)))) (wrap64 (1 + (wrap64 (Int.tmod a2 28)))) (wrap64 (1900 + (Int.tmod (wrap64 (a0)) 1099))) (wrap64 (1 + (wrap64 (Int.tmod a1 12)))) (wrap64 (1 + (wrap64 (Int.tmod a2 28)))) bt224.1).bind fun t234 => (if t234 = 1 then ((dates_Days.f k (wrap64 (1900 + (Int.tmod (wrap64 (a0)) 1099))) (wrap64 (1 + (wrap64 (Int.tmod a1 12)))) 1 (wrap64 (1900 + (Int.tmod (wrap64 (a0)) 1099))) (wrap64 (1 + (wrap64 (Int.tmod a1 12)))) (wrap64 (1 + (wrap64 (Int.tmod a2 28)))) bt224.1).bind fun t235 => (if t235 = (wrap64 (1 + (wrap64 (Int.tmod a2 28)))) then (if t229 ≥ 28 then (if t229 ≤ 31 then ((paymasterlaw06_awake.f k).bind fun t236 => (some t236)) else (none)) else (none)) else (none))) else (none))) else (none))) else (none))) else (none)) else (none)) else (none))))
theorem paymasterlaw06_DatesPeriods.mono : ∀ a0 a1 a2 k, LeO (paymasterlaw06_DatesPeriods.f k a0 a1 a2) (paymasterlaw06_DatesPeriods.f (k + 1) a0 a1 a2) := by
  intro a0 a1 a2 k
  unfold paymasterlaw06_DatesPeriods.f
  repeat' first
      | (with_reducible exact dates_Days.mono _ _ _ _ _ _ _ _)
      | (with_reducible exact dates_Length.mono _ _ _)
      | (with_reducible exact dates_Period.mono _ _ _ _)
      | (with_reducible exact paymasterlaw06_awake.mono _)
      | (with_reducible exact LeO.refl _)
      | (with_reducible exact LeO.none _)
      | (with_reducible refine LeO.ite ?_ ?_)
      | (with_reducible refine LeO.bind ?_ (fun _ => ?_))
      | exact dates_Days.mono _ _ _ _ _ _ _ _
      | exact dates_Length.mono _ _ _
      | exact dates_Period.mono _ _ _ _
      | exact paymasterlaw06_awake.mono _
      | exact LeO.none _
      | refine LeO.ite ?_ ?_
      | refine LeO.bind ?_ (fun _ => ?_)
def paymasterlaw06_DatesPeriods.T7 : Bool × List (List Nat × List Nat) := (true, [([], []), ([0], [0]), ([], []), ([2], [2]), ([1, 3], [1, 3]), ([], []), ([5], [5]), ([], []), ([7], [7]), ([], []), ([6, 8, 9], [6, 8, 9]), ([], []), ([], []), ([11, 4, 0, 1, 2, 3, 4, 11, 12], [4, 11]), ([12, 10, 13, 0, 1, 2, 3, 4, 5, 6, 7, 8, 9, 10, 11, 12, 13], [10, 12])])
def paymasterlaw06_DatesPeriods.B7 : List Nat := [0, 1, 0, 4, 15, 0, 32, 0, 128, 0, 992, 0, 0, 6175, 16383]
theorem paymasterlaw06_DatesPeriods.tab7 : rtab .any (opsOf Try.f9 7) = paymasterlaw06_DatesPeriods.T7 := by kernel_rfl
theorem paymasterlaw06_DatesPeriods.bits7 : waitsOk paymasterlaw06_DatesPeriods.T7.2 paymasterlaw06_DatesPeriods.B7 = true := by kernel_rfl
def paymasterlaw06_DatesPeriods.T8 : Bool × List (List Nat × List Nat) := (true, [([], []), ([0], [0]), ([1], [1]), ([1, 2], [1, 2]), ([3, 1], [3]), ([4], [4]), ([4], [4]), ([6, 4], [4, 6]), ([5, 7, 4], [4, 5, 7]), ([4, 8], [4, 8]), ([9, 4], [9]), ([10], [10]), ([10], [10]), ([10], [10]), ([11, 12, 13, 10, 10], [10, 11, 12, 13]), ([10], [10]), ([14, 15, 10], [10, 14, 15]), ([10, 16], [10, 16]), ([17, 14], [17]), ([18], [18]), ([18], [18]), ([18], [18]), ([21, 18], [18, 21]), ([19, 20, 22, 18, 18], [18, 19, 20, 22]), ([23, 18], [18, 23]), ([18, 24], [18, 24]), ([25, 23], [25]), ([26], [26]), ([26], [26]), ([26], [26]), ([27, 28, 29, 26, 26], [26, 27, 28, 29]), ([30, 26], [26, 30]), ([26, 31], [26, 31]), ([32, 30], [32]), ([33], [33]), ([33], [33]), ([33], [33]), ([34, 35, 36, 33, 33], [33, 34, 35, 36]), ([33], [33]), ([38, 33], [33, 38]), ([37, 39, 33], [33, 37, 39]), ([33, 40], [33, 40]), ([41, 37], [41]), ([42], [42]), ([43, 42], [42, 43]), ([42, 44], [42, 44]), ([45, 42], [45]), ([46], [46]), ([47, 46], [46, 47]), ([46, 48], [46, 48]), ([49, 46], [49]), ([50, 50], [50]), ([50, 51], [50, 51]), ([52, 51, 0, 1, 2, 3, 4, 5, 6, 7, 8, 9, 10, 11, 12, 13, 14, 15, 16, 17, 18, 19, 20, 21, 22, 23, 24, 25, 26, 27, 28, 29, 30, 31, 32, 33, 34, 35, 36, 37, 38, 39, 40, 41, 42, 43, 44, 45, 46, 47, 48, 49, 50, 51, 52], [52])])
def paymasterlaw06_DatesPeriods.B8 : List Nat := [0, 1, 3, 7, 15, 31, 31, 95, 255, 511, 1023, 2047, 2047, 2047, 16383, 2047, 65535, 131071, 262143, 524287, 524287, 524287, 2621439, 8388607, 16777215, 33554431, 67108863, 134217727, 134217727, 134217727, 1073741823, 2147483647, 4294967295, 8589934591, 17179869183, 17179869183, 17179869183, 137438953471, 17179869183, 292057776127, 1099511627775, 2199023255551, 4398046511103, 8796093022207, 17592186044415, 35184372088831, 70368744177663, 140737488355327, 281474976710655, 562949953421311, 1125899906842623, 2251799813685247, 4503599627370495, 9007199254740991]
theorem paymasterlaw06_DatesPeriods.tab8 : rtab .any (opsOf Try.f9 8) = paymasterlaw06_DatesPeriods.T8 := by kernel_rfl
theorem paymasterlaw06_DatesPeriods.bits8 : waitsOk paymasterlaw06_DatesPeriods.T8.2 paymasterlaw06_DatesPeriods.B8 = true := by kernel_rfl
set_option maxHeartbeats 8000000 in
set_option maxRecDepth 100000 in
theorem paymasterlaw06_DatesPeriods.calls (k : Nat) (a0 : Int) (a1 : Int) (a2 : Int) (r : Bool) (w : World) (h : paymasterlaw06_DatesPeriods.f k a0 a1 a2 = some r) :
    Calls Try.prog 9 #[.int .u16 a0, .int .u8 a1, .int .u8 a2] w fun e w' => e = .returned (.bool r) ∧ Below w.heap.size w w' := by
  have hu23 := Try.underlying23
  have HB := Aside0.mk (Below.refl w.heap.size w)
  have H : ((dates_Period.f k (wrap64 (1900 + (Int.tmod (wrap64 (a0)) 1099))) (wrap64 (1 + (wrap64 (Int.tmod a1 12)))) (wrap64 (1 + (wrap64 (Int.tmod a2 28))))).bind fun bt224 => ((dates_Period.f k (wrap64 ((wrap64 (1900 + (Int.tmod (wrap64 (a0)) 1099))) + 1)) (wrap64 (1 + (wrap64 (Int.tmod a1 12)))) (wrap64 (1 + (wrap64 (Int.tmod a2 28))))).bind fun bt227 => ((dates_Length.f k (wrap64 (1900 + (Int.tmod (wrap64 (a0)) 1099))) (wrap64 (1 + (wrap64 (Int.tmod a1 12))))).bind fun t229 => (if bt224.2 = true then (if bt227.2 = true then (if bt227.1 = (wrap64 (bt224.1 + 12)) then ((dates_Days.f k (wrap64 (1900 + (Int.tmod (wrap64 (a0)) 1099))) (wrap64 (1 + (wrap64 (Int.tmod a1 12)))) 1 (wrap64 (1900 + (Int.tmod (wrap64 (a0)) 1099))) (wrap64 (1 + (wrap64 (Int.tmod a1 12)))) t229 bt224.1).bind fun t232 => (if t232 = t229 then ((dates_Days.f k (wrap64 (1900 + (Int.tmod (wrap64 (a0)) 1099))) (wrap64 (1 + (wrap64 (Int.tmod a1 12)))) 1 (wrap64 (1900 + (Int.tmod (wrap64 (a0)) 1099))) (wrap64 (1 + (wrap64 (Int.tmod a1 12)))) t229 (wrap64 (bt224.1 + 1))).bind fun t233 => (if t233 = 0 then ((dates_Days.f k (wrap64 (1900 + (Int.tmod (wrap64 (a0)) 1099))) (wrap64 (1 + (wrap64 (Int.tmod a1 12)))) (wrap64 (1 + (wrap64 (Int.tmod a2 28)))) (wrap64 (1900 + (Int.tmod (wrap64 (a0)) 1099))) (wrap64 (1 + (wrap64 (Int.tmod a1 12)))) (wrap64 (1 + (wrap64 (Int.tmod a2 28)))) bt224.1).bind fun t234 => (if t234 = 1 then ((dates_Days.f k (wrap64 (1900 + (Int.tmod (wrap64 (a0)) 1099))) (wrap64 (1 + (wrap64 (Int.tmod a1 12)))) 1 (wrap64 (1900 + (Int.tmod (wrap64 (a0)) 1099))) (wrap64 (1 + (wrap64 (Int.tmod a1 12)))) (wrap64 (1 + (wrap64 (Int.tmod a2 28)))) bt224.1).bind fun t235 => (if t235 = (wrap64 (1 + (wrap64 (Int.tmod a2 28)))) then (if t229 ≥ 28 then (if t229 ≤ 31 then ((paymasterlaw06_awake.f k).bind fun t236 => (some t236)) else (none)) else (none)) else (none))) else (none))) else (none))) else (none))) else (none)) else (none)) else (none))))) = some r := h
  clear h
  replace H := Option.bind_eq_some_iff.mp H
  obtain ⟨⟨t224, t225⟩, A40, H⟩ := H
  replace H : ((dates_Period.f k (wrap64 ((wrap64 (1900 + (Int.tmod (wrap64 (a0)) 1099))) + 1)) (wrap64 (1 + (wrap64 (Int.tmod a1 12)))) (wrap64 (1 + (wrap64 (Int.tmod a2 28))))).bind fun bt227 => ((dates_Length.f k (wrap64 (1900 + (Int.tmod (wrap64 (a0)) 1099))) (wrap64 (1 + (wrap64 (Int.tmod a1 12))))).bind fun t229 => (if t225 = true then (if bt227.2 = true then (if bt227.1 = (wrap64 (t224 + 12)) then ((dates_Days.f k (wrap64 (1900 + (Int.tmod (wrap64 (a0)) 1099))) (wrap64 (1 + (wrap64 (Int.tmod a1 12)))) 1 (wrap64 (1900 + (Int.tmod (wrap64 (a0)) 1099))) (wrap64 (1 + (wrap64 (Int.tmod a1 12)))) t229 t224).bind fun t232 => (if t232 = t229 then ((dates_Days.f k (wrap64 (1900 + (Int.tmod (wrap64 (a0)) 1099))) (wrap64 (1 + (wrap64 (Int.tmod a1 12)))) 1 (wrap64 (1900 + (Int.tmod (wrap64 (a0)) 1099))) (wrap64 (1 + (wrap64 (Int.tmod a1 12)))) t229 (wrap64 (t224 + 1))).bind fun t233 => (if t233 = 0 then ((dates_Days.f k (wrap64 (1900 + (Int.tmod (wrap64 (a0)) 1099))) (wrap64 (1 + (wrap64 (Int.tmod a1 12)))) (wrap64 (1 + (wrap64 (Int.tmod a2 28)))) (wrap64 (1900 + (Int.tmod (wrap64 (a0)) 1099))) (wrap64 (1 + (wrap64 (Int.tmod a1 12)))) (wrap64 (1 + (wrap64 (Int.tmod a2 28)))) t224).bind fun t234 => (if t234 = 1 then ((dates_Days.f k (wrap64 (1900 + (Int.tmod (wrap64 (a0)) 1099))) (wrap64 (1 + (wrap64 (Int.tmod a1 12)))) 1 (wrap64 (1900 + (Int.tmod (wrap64 (a0)) 1099))) (wrap64 (1 + (wrap64 (Int.tmod a1 12)))) (wrap64 (1 + (wrap64 (Int.tmod a2 28)))) t224).bind fun t235 => (if t235 = (wrap64 (1 + (wrap64 (Int.tmod a2 28)))) then (if t229 ≥ 28 then (if t229 ≤ 31 then ((paymasterlaw06_awake.f k).bind fun t236 => (some t236)) else (none)) else (none)) else (none))) else (none))) else (none))) else (none))) else (none)) else (none)) else (none)))) = some r := H
  have A4 := Aside0.mk A40
  clear A40
  replace H := Option.bind_eq_some_iff.mp H
  obtain ⟨⟨t227, t228⟩, A50, H⟩ := H
  replace H : ((dates_Length.f k (wrap64 (1900 + (Int.tmod (wrap64 (a0)) 1099))) (wrap64 (1 + (wrap64 (Int.tmod a1 12))))).bind fun t229 => (if t225 = true then (if t228 = true then (if t227 = (wrap64 (t224 + 12)) then ((dates_Days.f k (wrap64 (1900 + (Int.tmod (wrap64 (a0)) 1099))) (wrap64 (1 + (wrap64 (Int.tmod a1 12)))) 1 (wrap64 (1900 + (Int.tmod (wrap64 (a0)) 1099))) (wrap64 (1 + (wrap64 (Int.tmod a1 12)))) t229 t224).bind fun t232 => (if t232 = t229 then ((dates_Days.f k (wrap64 (1900 + (Int.tmod (wrap64 (a0)) 1099))) (wrap64 (1 + (wrap64 (Int.tmod a1 12)))) 1 (wrap64 (1900 + (Int.tmod (wrap64 (a0)) 1099))) (wrap64 (1 + (wrap64 (Int.tmod a1 12)))) t229 (wrap64 (t224 + 1))).bind fun t233 => (if t233 = 0 then ((dates_Days.f k (wrap64 (1900 + (Int.tmod (wrap64 (a0)) 1099))) (wrap64 (1 + (wrap64 (Int.tmod a1 12)))) (wrap64 (1 + (wrap64 (Int.tmod a2 28)))) (wrap64 (1900 + (Int.tmod (wrap64 (a0)) 1099))) (wrap64 (1 + (wrap64 (Int.tmod a1 12)))) (wrap64 (1 + (wrap64 (Int.tmod a2 28)))) t224).bind fun t234 => (if t234 = 1 then ((dates_Days.f k (wrap64 (1900 + (Int.tmod (wrap64 (a0)) 1099))) (wrap64 (1 + (wrap64 (Int.tmod a1 12)))) 1 (wrap64 (1900 + (Int.tmod (wrap64 (a0)) 1099))) (wrap64 (1 + (wrap64 (Int.tmod a1 12)))) (wrap64 (1 + (wrap64 (Int.tmod a2 28)))) t224).bind fun t235 => (if t235 = (wrap64 (1 + (wrap64 (Int.tmod a2 28)))) then (if t229 ≥ 28 then (if t229 ≤ 31 then ((paymasterlaw06_awake.f k).bind fun t236 => (some t236)) else (none)) else (none)) else (none))) else (none))) else (none))) else (none))) else (none)) else (none)) else (none))) = some r := H
  have A5 := Aside0.mk A50
  clear A50
  replace H := Option.bind_eq_some_iff.mp H
  obtain ⟨t229, A60, H⟩ := H
  replace H : (if t225 = true then (if t228 = true then (if t227 = (wrap64 (t224 + 12)) then ((dates_Days.f k (wrap64 (1900 + (Int.tmod (wrap64 (a0)) 1099))) (wrap64 (1 + (wrap64 (Int.tmod a1 12)))) 1 (wrap64 (1900 + (Int.tmod (wrap64 (a0)) 1099))) (wrap64 (1 + (wrap64 (Int.tmod a1 12)))) t229 t224).bind fun t232 => (if t232 = t229 then ((dates_Days.f k (wrap64 (1900 + (Int.tmod (wrap64 (a0)) 1099))) (wrap64 (1 + (wrap64 (Int.tmod a1 12)))) 1 (wrap64 (1900 + (Int.tmod (wrap64 (a0)) 1099))) (wrap64 (1 + (wrap64 (Int.tmod a1 12)))) t229 (wrap64 (t224 + 1))).bind fun t233 => (if t233 = 0 then ((dates_Days.f k (wrap64 (1900 + (Int.tmod (wrap64 (a0)) 1099))) (wrap64 (1 + (wrap64 (Int.tmod a1 12)))) (wrap64 (1 + (wrap64 (Int.tmod a2 28)))) (wrap64 (1900 + (Int.tmod (wrap64 (a0)) 1099))) (wrap64 (1 + (wrap64 (Int.tmod a1 12)))) (wrap64 (1 + (wrap64 (Int.tmod a2 28)))) t224).bind fun t234 => (if t234 = 1 then ((dates_Days.f k (wrap64 (1900 + (Int.tmod (wrap64 (a0)) 1099))) (wrap64 (1 + (wrap64 (Int.tmod a1 12)))) 1 (wrap64 (1900 + (Int.tmod (wrap64 (a0)) 1099))) (wrap64 (1 + (wrap64 (Int.tmod a1 12)))) (wrap64 (1 + (wrap64 (Int.tmod a2 28)))) t224).bind fun t235 => (if t235 = (wrap64 (1 + (wrap64 (Int.tmod a2 28)))) then (if t229 ≥ 28 then (if t229 ≤ 31 then ((paymasterlaw06_awake.f k).bind fun t236 => (some t236)) else (none)) else (none)) else (none))) else (none))) else (none))) else (none))) else (none)) else (none)) else (none)) = some r := H
  have A6 := Aside0.mk A60
  clear A60
  by_cases c7 : t225 = true
  · subst c7
    have H1 : (if t228 = true then (if t227 = (wrap64 (t224 + 12)) then ((dates_Days.f k (wrap64 (1900 + (Int.tmod (wrap64 (a0)) 1099))) (wrap64 (1 + (wrap64 (Int.tmod a1 12)))) 1 (wrap64 (1900 + (Int.tmod (wrap64 (a0)) 1099))) (wrap64 (1 + (wrap64 (Int.tmod a1 12)))) t229 t224).bind fun t232 => (if t232 = t229 then ((dates_Days.f k (wrap64 (1900 + (Int.tmod (wrap64 (a0)) 1099))) (wrap64 (1 + (wrap64 (Int.tmod a1 12)))) 1 (wrap64 (1900 + (Int.tmod (wrap64 (a0)) 1099))) (wrap64 (1 + (wrap64 (Int.tmod a1 12)))) t229 (wrap64 (t224 + 1))).bind fun t233 => (if t233 = 0 then ((dates_Days.f k (wrap64 (1900 + (Int.tmod (wrap64 (a0)) 1099))) (wrap64 (1 + (wrap64 (Int.tmod a1 12)))) (wrap64 (1 + (wrap64 (Int.tmod a2 28)))) (wrap64 (1900 + (Int.tmod (wrap64 (a0)) 1099))) (wrap64 (1 + (wrap64 (Int.tmod a1 12)))) (wrap64 (1 + (wrap64 (Int.tmod a2 28)))) t224).bind fun t234 => (if t234 = 1 then ((dates_Days.f k (wrap64 (1900 + (Int.tmod (wrap64 (a0)) 1099))) (wrap64 (1 + (wrap64 (Int.tmod a1 12)))) 1 (wrap64 (1900 + (Int.tmod (wrap64 (a0)) 1099))) (wrap64 (1 + (wrap64 (Int.tmod a1 12)))) (wrap64 (1 + (wrap64 (Int.tmod a2 28)))) t224).bind fun t235 => (if t235 = (wrap64 (1 + (wrap64 (Int.tmod a2 28)))) then (if t229 ≥ 28 then (if t229 ≤ 31 then ((paymasterlaw06_awake.f k).bind fun t236 => (some t236)) else (none)) else (none)) else (none))) else (none))) else (none))) else (none))) else (none)) else (none)) = some r := by rw [if_pos rfl] at H; exact H
    clear H
    have H := H1
    clear H1
    by_cases c8 : t228 = true
    · subst c8
      have H1 : (if t227 = (wrap64 (t224 + 12)) then ((dates_Days.f k (wrap64 (1900 + (Int.tmod (wrap64 (a0)) 1099))) (wrap64 (1 + (wrap64 (Int.tmod a1 12)))) 1 (wrap64 (1900 + (Int.tmod (wrap64 (a0)) 1099))) (wrap64 (1 + (wrap64 (Int.tmod a1 12)))) t229 t224).bind fun t232 => (if t232 = t229 then ((dates_Days.f k (wrap64 (1900 + (Int.tmod (wrap64 (a0)) 1099))) (wrap64 (1 + (wrap64 (Int.tmod a1 12)))) 1 (wrap64 (1900 + (Int.tmod (wrap64 (a0)) 1099))) (wrap64 (1 + (wrap64 (Int.tmod a1 12)))) t229 (wrap64 (t224 + 1))).bind fun t233 => (if t233 = 0 then ((dates_Days.f k (wrap64 (1900 + (Int.tmod (wrap64 (a0)) 1099))) (wrap64 (1 + (wrap64 (Int.tmod a1 12)))) (wrap64 (1 + (wrap64 (Int.tmod a2 28)))) (wrap64 (1900 + (Int.tmod (wrap64 (a0)) 1099))) (wrap64 (1 + (wrap64 (Int.tmod a1 12)))) (wrap64 (1 + (wrap64 (Int.tmod a2 28)))) t224).bind fun t234 => (if t234 = 1 then ((dates_Days.f k (wrap64 (1900 + (Int.tmod (wrap64 (a0)) 1099))) (wrap64 (1 + (wrap64 (Int.tmod a1 12)))) 1 (wrap64 (1900 + (Int.tmod (wrap64 (a0)) 1099))) (wrap64 (1 + (wrap64 (Int.tmod a1 12)))) (wrap64 (1 + (wrap64 (Int.tmod a2 28)))) t224).bind fun t235 => (if t235 = (wrap64 (1 + (wrap64 (Int.tmod a2 28)))) then (if t229 ≥ 28 then (if t229 ≤ 31 then ((paymasterlaw06_awake.f k).bind fun t236 => (some t236)) else (none)) else (none)) else (none))) else (none))) else (none))) else (none))) else (none)) = some r := by rw [if_pos rfl] at H; exact H
      clear H
      have H := H1
      clear H1
      by_cases c9 : t227 = (wrap64 (t224 + 12))
      · rw [if_pos c9] at H
        have c9b0 : (t227 == (wrap64 (t224 + 12))) = true := beq_iff_eq.mpr c9
        have c9b1 : (t227 != (wrap64 (t224 + 12))) = false := bne_eq_false_iff_eq.mpr c9
        clear c9
        replace H := Option.bind_eq_some_iff.mp H
        obtain ⟨t232, A100, H⟩ := H
        replace H : (if t232 = t229 then ((dates_Days.f k (wrap64 (1900 + (Int.tmod (wrap64 (a0)) 1099))) (wrap64 (1 + (wrap64 (Int.tmod a1 12)))) 1 (wrap64 (1900 + (Int.tmod (wrap64 (a0)) 1099))) (wrap64 (1 + (wrap64 (Int.tmod a1 12)))) t229 (wrap64 (t224 + 1))).bind fun t233 => (if t233 = 0 then ((dates_Days.f k (wrap64 (1900 + (Int.tmod (wrap64 (a0)) 1099))) (wrap64 (1 + (wrap64 (Int.tmod a1 12)))) (wrap64 (1 + (wrap64 (Int.tmod a2 28)))) (wrap64 (1900 + (Int.tmod (wrap64 (a0)) 1099))) (wrap64 (1 + (wrap64 (Int.tmod a1 12)))) (wrap64 (1 + (wrap64 (Int.tmod a2 28)))) t224).bind fun t234 => (if t234 = 1 then ((dates_Days.f k (wrap64 (1900 + (Int.tmod (wrap64 (a0)) 1099))) (wrap64 (1 + (wrap64 (Int.tmod a1 12)))) 1 (wrap64 (1900 + (Int.tmod (wrap64 (a0)) 1099))) (wrap64 (1 + (wrap64 (Int.tmod a1 12)))) (wrap64 (1 + (wrap64 (Int.tmod a2 28)))) t224).bind fun t235 => (if t235 = (wrap64 (1 + (wrap64 (Int.tmod a2 28)))) then (if t229 ≥ 28 then (if t229 ≤ 31 then ((paymasterlaw06_awake.f k).bind fun t236 => (some t236)) else (none)) else (none)) else (none))) else (none))) else (none))) else (none)) = some r := H
        have A10 := Aside0.mk A100
        clear A100
        by_cases c11 : t232 = t229
        · rw [if_pos c11] at H
          have c11b0 : (t232 == t229) = true := beq_iff_eq.mpr c11
          have c11b1 : (t232 != t229) = false := bne_eq_false_iff_eq.mpr c11
          clear c11
          replace H := Option.bind_eq_some_iff.mp H
          obtain ⟨t233, A120, H⟩ := H
          replace H : (if t233 = 0 then ((dates_Days.f k (wrap64 (1900 + (Int.tmod (wrap64 (a0)) 1099))) (wrap64 (1 + (wrap64 (Int.tmod a1 12)))) (wrap64 (1 + (wrap64 (Int.tmod a2 28)))) (wrap64 (1900 + (Int.tmod (wrap64 (a0)) 1099))) (wrap64 (1 + (wrap64 (Int.tmod a1 12)))) (wrap64 (1 + (wrap64 (Int.tmod a2 28)))) t224).bind fun t234 => (if t234 = 1 then ((dates_Days.f k (wrap64 (1900 + (Int.tmod (wrap64 (a0)) 1099))) (wrap64 (1 + (wrap64 (Int.tmod a1 12)))) 1 (wrap64 (1900 + (Int.tmod (wrap64 (a0)) 1099))) (wrap64 (1 + (wrap64 (Int.tmod a1 12)))) (wrap64 (1 + (wrap64 (Int.tmod a2 28)))) t224).bind fun t235 => (if t235 = (wrap64 (1 + (wrap64 (Int.tmod a2 28)))) then (if t229 ≥ 28 then (if t229 ≤ 31 then ((paymasterlaw06_awake.f k).bind fun t236 => (some t236)) else (none)) else (none)) else (none))) else (none))) else (none)) = some r := H
          have A12 := Aside0.mk A120
          clear A120
          by_cases c13 : t233 = 0
          · rw [if_pos c13] at H
            have c13b0 : (t233 == 0) = true := beq_iff_eq.mpr c13
            have c13b1 : (t233 != 0) = false := bne_eq_false_iff_eq.mpr c13
            clear c13
            replace H := Option.bind_eq_some_iff.mp H
            obtain ⟨t234, A140, H⟩ := H
            replace H : (if t234 = 1 then ((dates_Days.f k (wrap64 (1900 + (Int.tmod (wrap64 (a0)) 1099))) (wrap64 (1 + (wrap64 (Int.tmod a1 12)))) 1 (wrap64 (1900 + (Int.tmod (wrap64 (a0)) 1099))) (wrap64 (1 + (wrap64 (Int.tmod a1 12)))) (wrap64 (1 + (wrap64 (Int.tmod a2 28)))) t224).bind fun t235 => (if t235 = (wrap64 (1 + (wrap64 (Int.tmod a2 28)))) then (if t229 ≥ 28 then (if t229 ≤ 31 then ((paymasterlaw06_awake.f k).bind fun t236 => (some t236)) else (none)) else (none)) else (none))) else (none)) = some r := H
            have A14 := Aside0.mk A140
            clear A140
            by_cases c15 : t234 = 1
            · rw [if_pos c15] at H
              have c15b0 : (t234 == 1) = true := beq_iff_eq.mpr c15
              have c15b1 : (t234 != 1) = false := bne_eq_false_iff_eq.mpr c15
              clear c15
              replace H := Option.bind_eq_some_iff.mp H
              obtain ⟨t235, A160, H⟩ := H
              replace H : (if t235 = (wrap64 (1 + (wrap64 (Int.tmod a2 28)))) then (if t229 ≥ 28 then (if t229 ≤ 31 then ((paymasterlaw06_awake.f k).bind fun t236 => (some t236)) else (none)) else (none)) else (none)) = some r := H
              have A16 := Aside0.mk A160
              clear A160
              by_cases c17 : t235 = (wrap64 (1 + (wrap64 (Int.tmod a2 28))))
              · rw [if_pos c17] at H
                have c17b0 : (t235 == (wrap64 (1 + (wrap64 (Int.tmod a2 28))))) = true := beq_iff_eq.mpr c17
                have c17b1 : (t235 != (wrap64 (1 + (wrap64 (Int.tmod a2 28))))) = false := bne_eq_false_iff_eq.mpr c17
                clear c17
                by_cases c18 : t229 ≥ 28
                · rw [if_pos c18] at H
                  have c18b0 : decide (28 ≤ t229) = true := decide_eq_true c18
                  clear c18
                  by_cases c19 : t229 ≤ 31
                  · rw [if_pos c19] at H
                    have c19b0 : decide (t229 ≤ 31) = true := decide_eq_true c19
                    clear c19
                    replace H := Option.bind_eq_some_iff.mp H
                    obtain ⟨t236, A200, H⟩ := H
                    replace H : (some t236) = some r := H
                    have A20 := Aside0.mk A200
                    clear A200
                    obtain rfl := Option.some.inj H
                    go_enter Try.func9, Try.ntmps9
                    try go_wp2_with (first | ((with_reducible refine gate_dst (N := 7) rfl ?_); refine box_event ?hg (N := 7) ?hd (cs := #[.int .i64 0, .int .i64 0, .int .i64 0]) (t := 23) ?hr ?_; (case hd => rfl); (case hg => rfl); (case hr => first | (go_simp; done) | (go_simp; rfl)); intro gb223 hg w21 hbox hb; have n0_ := Aside0.mk (below_step (by repeat (first | (with_reducible first | exact HB.out | apply below_alloc | apply pw_below_drewN | apply below_drew1) | exact HB.out)) hb); have n1_ := Aside0.mk (hbox); have n2_ := Aside0.mk ((by rw [hg]; exact (below_size (by repeat (first | (with_reducible first | exact HB.out | apply below_alloc | apply pw_below_drewN | apply below_drew1) | exact HB.out))) : w.heap.size ≤ gb223)); have n3_ := Aside0.mk ((by rw [hg]; exact (below_size (by repeat (first | (with_reducible first | exact HB.out | apply below_alloc | apply pw_below_drewN | apply below_drew1) | exact HB.out))) : w.heap.size ≤ gb223)); clear HB; have HB := n0_; have BK223 := n1_; have GW223 := n2_; have GE223 := n3_; clear n0_ n1_ n2_ n3_; clear hb hbox hg; have hcz22_0 : w21.cell? ⟨gb223, 0, none⟩ = some (.int .i64 0) := (blk_cell BK223.out 0).trans rfl; have hcz22_1 : w21.cell? ⟨gb223, 1, none⟩ = some (.int .i64 0) := (blk_cell BK223.out 1).trans rfl; have hcz22_2 : w21.cell? ⟨gb223, 2, none⟩ = some (.int .i64 0) := (blk_cell BK223.out 2).trans rfl; have hfz22_0 := blk_frozen BK223.out 0; have hfz22_1 := blk_frozen BK223.out 1; have hfz22_2 := blk_frozen BK223.out 2) | ((with_reducible refine gate_callee (f := 16) rfl ?_); refine goesL_ (some 31) rfl rfl Try.func16 (by kernel_rfl) rfl #[.agg #[.int .i64 (wrap64 (1900 + (Int.tmod (wrap64 (a0)) 1099))), .int .i64 (wrap64 (1 + (wrap64 (Int.tmod a1 12)))), .int .i64 (wrap64 (1 + (wrap64 (Int.tmod a2 28))))]] rfl (by (try simp only [List.map_toArray, List.map_cons, List.map_nil]); first | done | rfl | (simp only [List.length_drop, List.length_take]; rfl)) ?_; (with_reducible refine (dates_Period.calls k (wrap64 (1900 + (Int.tmod (wrap64 (a0)) 1099))) (wrap64 (1 + (wrap64 (Int.tmod a1 12)))) (wrap64 (1 + (wrap64 (Int.tmod a2 28)))) t224 true _ A4.out).mono ?_); rintro e w23 ⟨rfl, hb⟩; refine ⟨_, rfl, ?_⟩; have n0_ := Aside0.mk (blk_below (g := gb223) (o := .cells #[.int .i64 (wrap64 (1900 + (Int.tmod (wrap64 (a0)) 1099))), .int .i64 (wrap64 (1 + (wrap64 (Int.tmod a1 12)))), .int .i64 (wrap64 (1 + (wrap64 (Int.tmod a2 28))))] 23 (0, 0)) (by (with_reducible repeat (first | refine blk_drewN ?_ _ | refine blk_drew ?_ | refine blk_alloc ?_ _)); refine blk_put (cs := #[.int .i64 (wrap64 (1900 + (Int.tmod (wrap64 (a0)) 1099))), .int .i64 (wrap64 (1 + (wrap64 (Int.tmod a1 12)))), .int .i64 0]) ?_ 2 _ rfl; (with_reducible repeat (first | refine blk_drewN ?_ _ | refine blk_drew ?_ | refine blk_alloc ?_ _)); refine blk_put (cs := #[.int .i64 (wrap64 (1900 + (Int.tmod (wrap64 (a0)) 1099))), .int .i64 0, .int .i64 0]) ?_ 1 _ rfl; (with_reducible repeat (first | refine blk_drewN ?_ _ | refine blk_drew ?_ | refine blk_alloc ?_ _)); refine blk_put (cs := #[.int .i64 0, .int .i64 0, .int .i64 0]) ?_ 0 _ rfl; (with_reducible repeat (first | refine blk_drewN ?_ _ | refine blk_drew ?_ | refine blk_alloc ?_ _)); exact BK223.out) hb); have n1_ := Aside0.mk (below_step (by repeat (first | (with_reducible first | exact HB.out | apply below_alloc | apply pw_below_drewN | apply below_drew1 | refine below_set ?_ GE223.out) | exact HB.out)) hb); clear BK223; clear HB; have BK223 := n0_; have HB := n1_; clear n0_ n1_; (try clear hb); (try clear hb2); (try clear hk); (try clear hi); have hcz24_0 : w23.cell? ⟨gb223, 0, none⟩ = some (.int .i64 (wrap64 (1900 + (Int.tmod (wrap64 (a0)) 1099)))) := (blk_cell BK223.out 0).trans rfl; have hcz24_1 : w23.cell? ⟨gb223, 1, none⟩ = some (.int .i64 (wrap64 (1 + (wrap64 (Int.tmod a1 12))))) := (blk_cell BK223.out 1).trans rfl; have hcz24_2 : w23.cell? ⟨gb223, 2, none⟩ = some (.int .i64 (wrap64 (1 + (wrap64 (Int.tmod a2 28))))) := (blk_cell BK223.out 2).trans rfl; have hfz24_0 := blk_frozen BK223.out 0; have hfz24_1 := blk_frozen BK223.out 1; have hfz24_2 := blk_frozen BK223.out 2) | ((with_reducible refine gate_dst (N := 10) rfl ?_); refine box_event ?hg (N := 10) ?hd (cs := #[.int .i64 0, .int .i64 0, .int .i64 0]) (t := 23) ?hr ?_; (case hd => rfl); (case hg => rfl); (case hr => first | (go_simp; done) | (go_simp; rfl)); intro gb226 hg w25 hbox hb; have n0_ := Aside0.mk (blk_below (g := gb223) (o := .cells #[.int .i64 (wrap64 (1900 + (Int.tmod (wrap64 (a0)) 1099))), .int .i64 (wrap64 (1 + (wrap64 (Int.tmod a1 12)))), .int .i64 (wrap64 (1 + (wrap64 (Int.tmod a2 28))))] 23 (0, 0)) (by (with_reducible repeat (first | refine blk_drewN ?_ _ | refine blk_drew ?_ | refine blk_alloc ?_ _)); exact BK223.out) hb); have n1_ := Aside0.mk (below_step (by repeat (first | (with_reducible first | exact HB.out | apply below_alloc | apply pw_below_drewN | apply below_drew1 | refine below_set ?_ GE223.out) | exact HB.out)) hb); have n2_ := Aside0.mk (hbox); have n3_ := Aside0.mk ((by rw [hg]; exact (below_size (by repeat (first | (with_reducible first | exact HB.out | apply below_alloc | apply pw_below_drewN | apply below_drew1 | refine below_set ?_ GE223.out) | exact HB.out))) : w.heap.size ≤ gb226)); have n4_ := Aside0.mk ((by rw [hg]; exact (below_size (by repeat (first | (with_reducible first | exact HB.out | apply below_alloc | apply pw_below_drewN | apply below_drew1 | refine below_set ?_ GE223.out) | exact HB.out))) : w.heap.size ≤ gb226)); have n5_ := Aside0.mk ((by rw [hg]; exact Nat.ne_of_lt (blk_lt (g := gb223) (o := .cells #[.int .i64 (wrap64 (1900 + (Int.tmod (wrap64 (a0)) 1099))), .int .i64 (wrap64 (1 + (wrap64 (Int.tmod a1 12)))), .int .i64 (wrap64 (1 + (wrap64 (Int.tmod a2 28))))] 23 (0, 0)) (by (with_reducible repeat (first | refine blk_drewN ?_ _ | refine blk_drew ?_ | refine blk_alloc ?_ _)); exact BK223.out)) : gb223 ≠ gb226)); have n6_ := Aside0.mk ((by rw [hg]; exact Nat.ne_of_gt (blk_lt (g := gb223) (o := .cells #[.int .i64 (wrap64 (1900 + (Int.tmod (wrap64 (a0)) 1099))), .int .i64 (wrap64 (1 + (wrap64 (Int.tmod a1 12)))), .int .i64 (wrap64 (1 + (wrap64 (Int.tmod a2 28))))] 23 (0, 0)) (by (with_reducible repeat (first | refine blk_drewN ?_ _ | refine blk_drew ?_ | refine blk_alloc ?_ _)); exact BK223.out)) : gb226 ≠ gb223)); clear BK223; clear HB; have BK223 := n0_; have HB := n1_; have BK226 := n2_; have GW226 := n3_; have GE226 := n4_; have NB223_226 := n5_; have NB226_223 := n6_; clear n0_ n1_ n2_ n3_ n4_ n5_ n6_; clear hb hbox hg; have hnb26 := NB226_223.out; have hnc26 := NB223_226.out; have hcz27_0 : w25.cell? ⟨gb226, 0, none⟩ = some (.int .i64 0) := (blk_cell BK226.out 0).trans rfl; have hcz27_1 : w25.cell? ⟨gb226, 1, none⟩ = some (.int .i64 0) := (blk_cell BK226.out 1).trans rfl; have hcz27_2 : w25.cell? ⟨gb226, 2, none⟩ = some (.int .i64 0) := (blk_cell BK226.out 2).trans rfl; have hfz27_0 := blk_frozen BK226.out 0; have hfz27_1 := blk_frozen BK226.out 1; have hfz27_2 := blk_frozen BK226.out 2) | ((with_reducible refine gate_callee (f := 16) rfl ?_); refine goesL_ (some 41) rfl rfl Try.func16 (by kernel_rfl) rfl #[.agg #[.int .i64 (wrap64 ((wrap64 (1900 + (Int.tmod (wrap64 (a0)) 1099))) + 1)), .int .i64 (wrap64 (1 + (wrap64 (Int.tmod a1 12)))), .int .i64 (wrap64 (1 + (wrap64 (Int.tmod a2 28))))]] rfl (by (try simp only [List.map_toArray, List.map_cons, List.map_nil]); first | done | rfl | (simp only [List.length_drop, List.length_take]; rfl)) ?_; (with_reducible refine (dates_Period.calls k (wrap64 ((wrap64 (1900 + (Int.tmod (wrap64 (a0)) 1099))) + 1)) (wrap64 (1 + (wrap64 (Int.tmod a1 12)))) (wrap64 (1 + (wrap64 (Int.tmod a2 28)))) t227 true _ A5.out).mono ?_); rintro e w28 ⟨rfl, hb⟩; refine ⟨_, rfl, ?_⟩; have n0_ := Aside0.mk (blk_below (g := gb223) (o := .cells #[.int .i64 (wrap64 (1900 + (Int.tmod (wrap64 (a0)) 1099))), .int .i64 (wrap64 (1 + (wrap64 (Int.tmod a1 12)))), .int .i64 (wrap64 (1 + (wrap64 (Int.tmod a2 28))))] 23 (0, 0)) (by (with_reducible repeat (first | refine blk_drewN ?_ _ | refine blk_drew ?_ | refine blk_alloc ?_ _)); refine blk_far ?_ NB223_226.out _; (with_reducible repeat (first | refine blk_drewN ?_ _ | refine blk_drew ?_ | refine blk_alloc ?_ _)); refine blk_far ?_ NB223_226.out _; (with_reducible repeat (first | refine blk_drewN ?_ _ | refine blk_drew ?_ | refine blk_alloc ?_ _)); refine blk_far ?_ NB223_226.out _; (with_reducible repeat (first | refine blk_drewN ?_ _ | refine blk_drew ?_ | refine blk_alloc ?_ _)); refine blk_far ?_ NB223_226.out _; (with_reducible repeat (first | refine blk_drewN ?_ _ | refine blk_drew ?_ | refine blk_alloc ?_ _)); exact BK223.out) hb); have n1_ := Aside0.mk (blk_below (g := gb226) (o := .cells #[.int .i64 (wrap64 ((wrap64 (1900 + (Int.tmod (wrap64 (a0)) 1099))) + 1)), .int .i64 (wrap64 (1 + (wrap64 (Int.tmod a1 12)))), .int .i64 (wrap64 (1 + (wrap64 (Int.tmod a2 28))))] 23 (0, 0)) (by (with_reducible repeat (first | refine blk_drewN ?_ _ | refine blk_drew ?_ | refine blk_alloc ?_ _)); refine blk_put (cs := #[.int .i64 (wrap64 (1900 + (Int.tmod (wrap64 (a0)) 1099))), .int .i64 (wrap64 (1 + (wrap64 (Int.tmod a1 12)))), .int .i64 (wrap64 (1 + (wrap64 (Int.tmod a2 28))))]) ?_ 0 _ rfl; (with_reducible repeat (first | refine blk_drewN ?_ _ | refine blk_drew ?_ | refine blk_alloc ?_ _)); refine blk_put (cs := #[.int .i64 (wrap64 (1900 + (Int.tmod (wrap64 (a0)) 1099))), .int .i64 (wrap64 (1 + (wrap64 (Int.tmod a1 12)))), .int .i64 0]) ?_ 2 _ rfl; (with_reducible repeat (first | refine blk_drewN ?_ _ | refine blk_drew ?_ | refine blk_alloc ?_ _)); refine blk_put (cs := #[.int .i64 (wrap64 (1900 + (Int.tmod (wrap64 (a0)) 1099))), .int .i64 0, .int .i64 0]) ?_ 1 _ rfl; (with_reducible repeat (first | refine blk_drewN ?_ _ | refine blk_drew ?_ | refine blk_alloc ?_ _)); refine blk_put (cs := #[.int .i64 0, .int .i64 0, .int .i64 0]) ?_ 0 _ rfl; (with_reducible repeat (first | refine blk_drewN ?_ _ | refine blk_drew ?_ | refine blk_alloc ?_ _)); exact BK226.out) hb); have n2_ := Aside0.mk (below_step (by repeat (first | (with_reducible first | exact HB.out | apply below_alloc | apply pw_below_drewN | apply below_drew1 | refine below_set ?_ GE223.out | refine below_set ?_ GE226.out) | exact HB.out)) hb); clear BK223; clear BK226; clear HB; have BK223 := n0_; have BK226 := n1_; have HB := n2_; clear n0_ n1_ n2_; (try clear hb); (try clear hb2); (try clear hk); (try clear hi); have hcz29_0 : w28.cell? ⟨gb223, 0, none⟩ = some (.int .i64 (wrap64 (1900 + (Int.tmod (wrap64 (a0)) 1099)))) := (blk_cell BK223.out 0).trans rfl; have hcz29_1 : w28.cell? ⟨gb223, 1, none⟩ = some (.int .i64 (wrap64 (1 + (wrap64 (Int.tmod a1 12))))) := (blk_cell BK223.out 1).trans rfl; have hcz29_2 : w28.cell? ⟨gb223, 2, none⟩ = some (.int .i64 (wrap64 (1 + (wrap64 (Int.tmod a2 28))))) := (blk_cell BK223.out 2).trans rfl; have hfz29_0 := blk_frozen BK223.out 0; have hfz29_1 := blk_frozen BK223.out 1; have hfz29_2 := blk_frozen BK223.out 2) | ((with_reducible refine gate_callee (f := 15) rfl ?_); refine goesL_ (some 48) rfl rfl Try.func15 (by kernel_rfl) rfl #[.int .i64 (wrap64 (1900 + (Int.tmod (wrap64 (a0)) 1099))), .int .i64 (wrap64 (1 + (wrap64 (Int.tmod a1 12))))] rfl (by (try simp only [List.map_toArray, List.map_cons, List.map_nil]); first | done | rfl | (simp only [List.length_drop, List.length_take]; rfl)) ?_; (with_reducible refine (dates_Length.calls k (wrap64 (1900 + (Int.tmod (wrap64 (a0)) 1099))) (wrap64 (1 + (wrap64 (Int.tmod a1 12)))) t229 _ A6.out).mono ?_); rintro e w' ⟨rfl, ⟨nd, rfl⟩⟩; refine ⟨_, rfl, ?_⟩; (try (rw [drewN_self w28]; generalize hq_ : World.drewN w28 _ = w28; have n0_ : Aside0 (w28.heap[gb223]? = some (.cells #[.int .i64 (wrap64 (1900 + (Int.tmod (wrap64 (a0)) 1099))), .int .i64 (wrap64 (1 + (wrap64 (Int.tmod a1 12)))), .int .i64 (wrap64 (1 + (wrap64 (Int.tmod a2 28))))] 23 (0, 0))) := ⟨by rw [← hq_]; exact (by (with_reducible repeat (first | refine blk_drewN ?_ _ | refine blk_drew ?_ | refine blk_alloc ?_ _)); exact BK223.out)⟩; have n1_ : Aside0 (w28.heap[gb226]? = some (.cells #[.int .i64 (wrap64 ((wrap64 (1900 + (Int.tmod (wrap64 (a0)) 1099))) + 1)), .int .i64 (wrap64 (1 + (wrap64 (Int.tmod a1 12)))), .int .i64 (wrap64 (1 + (wrap64 (Int.tmod a2 28))))] 23 (0, 0))) := ⟨by rw [← hq_]; exact (by (with_reducible repeat (first | refine blk_drewN ?_ _ | refine blk_drew ?_ | refine blk_alloc ?_ _)); exact BK226.out)⟩; have n2_ : Aside0 (Below w.heap.size w w28) := ⟨by rw [← hq_]; exact (by repeat (first | (with_reducible first | exact HB.out | apply below_alloc | apply pw_below_drewN | apply below_drew1 | refine below_set ?_ GE223.out | refine below_set ?_ GE226.out) | exact HB.out))⟩; clear BK223 BK226 HB hq_; have BK223 := n0_; have BK226 := n1_; have HB := n2_; clear n0_ n1_ n2_))))
                    have n0_ := Aside0.mk (blk_drew BK223.out)
                    have n1_ := Aside0.mk (blk_drew BK226.out)
                    have n2_ := Aside0.mk (below_drew1 HB.out)
                    clear BK223
                    clear BK226
                    clear HB
                    have BK223 := n0_
                    have BK226 := n1_
                    have HB := n2_
                    clear n0_ n1_ n2_
                    refine start_ (n := 15) (S := fun w' => w'.cell? ⟨gb223, 0, none⟩ = some (.int .i64 (wrap64 (1900 + (Int.tmod (wrap64 (a0)) 1099)))) ∧ w'.cell? ⟨gb223, 1, none⟩ = some (.int .i64 (wrap64 (1 + (wrap64 (Int.tmod a1 12))))) ∧ w'.cell? ⟨gb223, 2, none⟩ = some (.int .i64 (wrap64 (1 + (wrap64 (Int.tmod a2 28)))))) (ds := []) #[false, false, false, false, false, false, false, false, false, false, false, false, false, false, false] (by kernel_rfl) rfl rfl ⟨(blk_cell BK223.out 0).trans rfl, (blk_cell BK223.out 1).trans rfl, (blk_cell BK223.out 2).trans rfl⟩ (fun hHeld => ?_); refine with_tabW paymasterlaw06_DatesPeriods.tab7 paymasterlaw06_DatesPeriods.bits7 (fun HT_ HW_ => ?_)
                    generalize w28.drew = w30 at BK223 BK226 HB hHeld ⊢
                    refine pure_ (i := 0) (N := some 49) (v := ?_) (a' := ?_) #[true, false, false, false, false, false, false, false, false, false, false, false, false, false, false] rfl rfl (any_of HT_.out (by kernel_rfl)) (fun _ _ _ h => h) (Or.inl ⟨by rfl, ?_⟩) ?_ ?_
                    rotate_left
                    · intro w'
                      go_simp
                      with_reducible rfl
                    rotate_left
                    · simp only [Act.put, List.setIfInBounds_toArray, List.set_cons_zero, List.set_cons_succ, i64_w, i32_w]
                      rfl
                    refine pure_ (i := 2) (N := some 51) (v := ?_) (a' := ?_) #[true, false, true, false, false, false, false, false, false, false, false, false, false, false, false] rfl rfl (any_of HT_.out (by kernel_rfl)) (fun _ _ _ h => h) (Or.inl ⟨by rfl, ?_⟩) ?_ ?_
                    rotate_left
                    · intro w'
                      go_simp
                      with_reducible rfl
                    rotate_left
                    · simp only [Act.put, List.setIfInBounds_toArray, List.set_cons_zero, List.set_cons_succ, i64_w, i32_w]
                      rfl
                    refine pure_ (i := 5) (N := some 54) (v := ?_) (a' := ?_) #[true, false, true, false, false, true, false, false, false, false, false, false, false, false, false] rfl rfl (any_of HT_.out (by kernel_rfl)) (fun _ _ _ h => h) (Or.inl ⟨by rfl, ?_⟩) ?_ ?_
                    rotate_left
                    · intro w'
                      go_simp
                      with_reducible rfl
                    rotate_left
                    · simp only [Act.put, List.setIfInBounds_toArray, List.set_cons_zero, List.set_cons_succ, i64_w, i32_w]
                      rfl
                    refine pure_ (i := 7) (N := some 56) (v := ?_) (a' := ?_) #[true, false, true, false, false, true, false, true, false, false, false, false, false, false, false] rfl rfl (any_of HT_.out (by kernel_rfl)) (fun _ _ _ h => h) (Or.inl ⟨by rfl, ?_⟩) ?_ ?_
                    rotate_left
                    · intro w'
                      go_simp
                      with_reducible rfl
                    rotate_left
                    · simp only [Act.put, List.setIfInBounds_toArray, List.set_cons_zero, List.set_cons_succ, i64_w, i32_w]
                      rfl
                    refine pure_ (i := 9) (N := some 58) (v := ?_) (a' := ?_) #[true, false, true, false, false, true, false, true, false, true, false, false, false, false, false] rfl rfl (any_of HT_.out (by kernel_rfl)) (fun _ _ _ h => h) (Or.inl ⟨by rfl, ?_⟩) ?_ ?_
                    rotate_left
                    · intro w'
                      go_simp
                      with_reducible rfl
                    rotate_left
                    · simp only [Act.put, List.setIfInBounds_toArray, List.set_cons_zero, List.set_cons_succ, i64_w, i32_w]
                      rfl
                    refine take_ (i := 1) (N := some 50) (v := ?_) (a' := ?_) #[true, true, true, false, false, true, false, true, false, true, false, false, false, false, false] rfl rfl (take_ofW HT_.out HW_.out (by kernel_rfl)) (fun _ _ _ h => h) (Or.inl ⟨by rfl, ?_⟩) hHeld ?_ ?_
                    rotate_left
                    · rintro w' ⟨s0, s1, s2⟩
                      go_simp
                      with_reducible rfl
                    rotate_left
                    · simp only [Act.put, List.setIfInBounds_toArray, List.set_cons_zero, List.set_cons_succ, i64_w, i32_w]
                      rfl
                    refine take_ (i := 3) (N := some 52) (v := ?_) (a' := ?_) #[true, true, true, true, false, true, false, true, false, true, false, false, false, false, false] rfl rfl (take_ofW HT_.out HW_.out (by kernel_rfl)) (fun _ _ _ h => h) (Or.inl ⟨by rfl, ?_⟩) hHeld ?_ ?_
                    rotate_left
                    · rintro w' ⟨s0, s1, s2⟩
                      go_simp
                      with_reducible rfl
                    rotate_left
                    · simp only [Act.put, List.setIfInBounds_toArray, List.set_cons_zero, List.set_cons_succ, i64_w, i32_w]
                      rfl
                    refine pure_ (i := 4) (N := some 53) (v := ?_) (a' := ?_) #[true, true, true, true, true, true, false, true, false, true, false, false, false, false, false] rfl rfl (any_of HT_.out (by kernel_rfl)) (fun _ _ _ h => h) (Or.inl ⟨by rfl, ?_⟩) ?_ ?_
                    rotate_left
                    · intro w'
                      go_simp
                      with_reducible rfl
                    rotate_left
                    · simp only [Act.put, List.setIfInBounds_toArray, List.set_cons_zero, List.set_cons_succ, i64_w, i32_w]
                      rfl
                    refine take_ (i := 6) (N := some 55) (v := ?_) (a' := ?_) #[true, true, true, true, true, true, true, true, false, true, false, false, false, false, false] rfl rfl (take_ofW HT_.out HW_.out (by kernel_rfl)) (fun _ _ _ h => h) (Or.inl ⟨by rfl, ?_⟩) hHeld ?_ ?_
                    rotate_left
                    · rintro w' ⟨s0, s1, s2⟩
                      go_simp
                      with_reducible rfl
                    rotate_left
                    · simp only [Act.put, List.setIfInBounds_toArray, List.set_cons_zero, List.set_cons_succ, i64_w, i32_w]
                      rfl
                    refine take_ (i := 8) (N := some 57) (v := ?_) (a' := ?_) #[true, true, true, true, true, true, true, true, true, true, false, false, false, false, false] rfl rfl (take_ofW HT_.out HW_.out (by kernel_rfl)) (fun _ _ _ h => h) (Or.inl ⟨by rfl, ?_⟩) hHeld ?_ ?_
                    rotate_left
                    · rintro w' ⟨s0, s1, s2⟩
                      go_simp
                      with_reducible rfl
                    rotate_left
                    · simp only [Act.put, List.setIfInBounds_toArray, List.set_cons_zero, List.set_cons_succ, i64_w, i32_w]
                      rfl
                    refine pure_ (i := 10) (N := some 59) (v := ?_) (a' := ?_) #[true, true, true, true, true, true, true, true, true, true, true, false, false, false, false] rfl rfl (any_of HT_.out (by kernel_rfl)) (fun _ _ _ h => h) (Or.inl ⟨by rfl, ?_⟩) ?_ ?_
                    rotate_left
                    · intro w'
                      go_simp
                      with_reducible rfl
                    rotate_left
                    · simp only [Act.put, List.setIfInBounds_toArray, List.set_cons_zero, List.set_cons_succ, i64_w, i32_w]
                      rfl
                    refine join_ (σ := Nat × Nat) 2 #[true, true, true, true, true, true, true, true, true, true, true, true, true, false, false] (fun s_ => [(14, .pointer (some ⟨s_.1, 0, none⟩)), (15, .pointer (some ⟨s_.2, 0, none⟩))]) (fun s_ w' => (w'.cell? ⟨gb223, 0, none⟩ = some (.int .i64 (wrap64 (1900 + (Int.tmod (wrap64 (a0)) 1099)))) ∧ w'.cell? ⟨gb223, 1, none⟩ = some (.int .i64 (wrap64 (1 + (wrap64 (Int.tmod a1 12))))) ∧ w'.cell? ⟨gb223, 2, none⟩ = some (.int .i64 (wrap64 (1 + (wrap64 (Int.tmod a2 28)))))) ∧ (w'.heap[gb223]? = some (.cells #[.int .i64 (wrap64 (1900 + (Int.tmod (wrap64 (a0)) 1099))), .int .i64 (wrap64 (1 + (wrap64 (Int.tmod a1 12)))), .int .i64 (wrap64 (1 + (wrap64 (Int.tmod a2 28))))] 23 (0, 0))) ∧ (w'.heap[gb226]? = some (.cells #[.int .i64 (wrap64 ((wrap64 (1900 + (Int.tmod (wrap64 (a0)) 1099))) + 1)), .int .i64 (wrap64 (1 + (wrap64 (Int.tmod a1 12)))), .int .i64 (wrap64 (1 + (wrap64 (Int.tmod a2 28))))] 23 (0, 0))) ∧ (w'.heap[s_.1]? = some (.cells #[.int .i64 0, .int .i64 0, .int .i64 0] 23 (0, 0))) ∧ (w'.heap[s_.2]? = some (.cells #[.int .i64 0, .int .i64 0, .int .i64 0] 23 (0, 0))) ∧ (w.heap.size ≤ s_.1) ∧ (w.heap.size ≤ s_.1) ∧ (gb223 ≠ s_.1) ∧ (s_.1 ≠ gb223) ∧ (gb226 ≠ s_.1) ∧ (s_.1 ≠ gb226) ∧ (s_.2 ≠ s_.1) ∧ (s_.1 ≠ s_.2) ∧ (w.heap.size ≤ s_.2) ∧ (w.heap.size ≤ s_.2) ∧ (gb223 ≠ s_.2) ∧ (s_.2 ≠ gb223) ∧ (gb226 ≠ s_.2) ∧ (s_.2 ≠ gb226) ∧ (Below w.heap.size w w')) ?_ ?_
                    rotate_left
                    · intro hCont
                      refine two_ (i := 11) (j := 12) (Ni := some 14) (Nj := some 15) #[true, true, true, true, true, true, true, true, true, true, true, true, false, false, false] #[true, true, true, true, true, true, true, true, true, true, true, false, true, false, false] rfl rfl rfl rfl (two_of HT_.out (by kernel_rfl)) (by decide) (by decide) (fun K hK => ?_) (fun K hK => ?_)
                      · skip
                        refine box_step ?hg (N := 14) ?hd (cs := #[.int .i64 0, .int .i64 0, .int .i64 0]) (t := 23) ?hr ?_; (case hd => rfl); (case hg => rfl); (case hr => first | (go_simp; done) | (go_simp; rfl))
                        intro gb230 hg w31 hbox hb
                        have n0_ := Aside0.mk (blk_below (g := gb223) (o := .cells #[.int .i64 (wrap64 (1900 + (Int.tmod (wrap64 (a0)) 1099))), .int .i64 (wrap64 (1 + (wrap64 (Int.tmod a1 12)))), .int .i64 (wrap64 (1 + (wrap64 (Int.tmod a2 28))))] 23 (0, 0)) (by (with_reducible repeat (first | refine blk_drewN ?_ _ | refine blk_drew ?_ | refine blk_alloc ?_ _)); exact BK223.out) hb)
                        have n1_ := Aside0.mk (blk_below (g := gb226) (o := .cells #[.int .i64 (wrap64 ((wrap64 (1900 + (Int.tmod (wrap64 (a0)) 1099))) + 1)), .int .i64 (wrap64 (1 + (wrap64 (Int.tmod a1 12)))), .int .i64 (wrap64 (1 + (wrap64 (Int.tmod a2 28))))] 23 (0, 0)) (by (with_reducible repeat (first | refine blk_drewN ?_ _ | refine blk_drew ?_ | refine blk_alloc ?_ _)); exact BK226.out) hb)
                        have n2_ := Aside0.mk (below_step (by repeat (first | (with_reducible first | exact HB.out | apply below_alloc | apply pw_below_drewN | apply below_drew1 | refine below_set ?_ GE223.out | refine below_set ?_ GE226.out) | exact HB.out)) hb)
                        have n3_ := Aside0.mk (hbox)
                        have n4_ := Aside0.mk ((by rw [hg]; exact (below_size (by repeat (first | (with_reducible first | exact HB.out | apply below_alloc | apply pw_below_drewN | apply below_drew1 | refine below_set ?_ GE223.out | refine below_set ?_ GE226.out) | exact HB.out))) : w.heap.size ≤ gb230))
                        have n5_ := Aside0.mk ((by rw [hg]; exact (below_size (by repeat (first | (with_reducible first | exact HB.out | apply below_alloc | apply pw_below_drewN | apply below_drew1 | refine below_set ?_ GE223.out | refine below_set ?_ GE226.out) | exact HB.out))) : w.heap.size ≤ gb230))
                        have n6_ := Aside0.mk ((by rw [hg]; exact Nat.ne_of_lt (blk_lt (g := gb223) (o := .cells #[.int .i64 (wrap64 (1900 + (Int.tmod (wrap64 (a0)) 1099))), .int .i64 (wrap64 (1 + (wrap64 (Int.tmod a1 12)))), .int .i64 (wrap64 (1 + (wrap64 (Int.tmod a2 28))))] 23 (0, 0)) (by (with_reducible repeat (first | refine blk_drewN ?_ _ | refine blk_drew ?_ | refine blk_alloc ?_ _)); exact BK223.out)) : gb223 ≠ gb230))
                        have n7_ := Aside0.mk ((by rw [hg]; exact Nat.ne_of_gt (blk_lt (g := gb223) (o := .cells #[.int .i64 (wrap64 (1900 + (Int.tmod (wrap64 (a0)) 1099))), .int .i64 (wrap64 (1 + (wrap64 (Int.tmod a1 12)))), .int .i64 (wrap64 (1 + (wrap64 (Int.tmod a2 28))))] 23 (0, 0)) (by (with_reducible repeat (first | refine blk_drewN ?_ _ | refine blk_drew ?_ | refine blk_alloc ?_ _)); exact BK223.out)) : gb230 ≠ gb223))
                        have n8_ := Aside0.mk ((by rw [hg]; exact Nat.ne_of_lt (blk_lt (g := gb226) (o := .cells #[.int .i64 (wrap64 ((wrap64 (1900 + (Int.tmod (wrap64 (a0)) 1099))) + 1)), .int .i64 (wrap64 (1 + (wrap64 (Int.tmod a1 12)))), .int .i64 (wrap64 (1 + (wrap64 (Int.tmod a2 28))))] 23 (0, 0)) (by (with_reducible repeat (first | refine blk_drewN ?_ _ | refine blk_drew ?_ | refine blk_alloc ?_ _)); exact BK226.out)) : gb226 ≠ gb230))
                        have n9_ := Aside0.mk ((by rw [hg]; exact Nat.ne_of_gt (blk_lt (g := gb226) (o := .cells #[.int .i64 (wrap64 ((wrap64 (1900 + (Int.tmod (wrap64 (a0)) 1099))) + 1)), .int .i64 (wrap64 (1 + (wrap64 (Int.tmod a1 12)))), .int .i64 (wrap64 (1 + (wrap64 (Int.tmod a2 28))))] 23 (0, 0)) (by (with_reducible repeat (first | refine blk_drewN ?_ _ | refine blk_drew ?_ | refine blk_alloc ?_ _)); exact BK226.out)) : gb230 ≠ gb226))
                        clear BK223
                        clear BK226
                        clear HB
                        have BK223 := n0_
                        have BK226 := n1_
                        have HB := n2_
                        have BK230 := n3_
                        have GW230 := n4_
                        have GE230 := n5_
                        have NB223_230 := n6_
                        have NB230_223 := n7_
                        have NB226_230 := n8_
                        have NB230_226 := n9_
                        clear n0_ n1_ n2_ n3_ n4_ n5_ n6_ n7_ n8_ n9_
                        clear hb hbox hg
                        refine hK.out _ _ ⟨(blk_cell BK223.out 0).trans rfl, (blk_cell BK223.out 1).trans rfl, (blk_cell BK223.out 2).trans rfl⟩ (fun hHeld => ?_)
                        clear hK K
                        refine norm_ (a' := ?_) ?_ ?_
                        rotate_left
                        · show Act.put _ (some 14) _ = _
                          simp only [Act.put, List.setIfInBounds_toArray, List.set_cons_zero, List.set_cons_succ, i64_w, i32_w]
                          rfl
                        refine one_ (i := 12) (N := some 15) #[true, true, true, true, true, true, true, true, true, true, true, true, true, false, false] rfl rfl (one_of HT_.out (by kernel_rfl)) (by decide) (fun K hK => ?_)
                        refine box_step ?hg (N := 15) ?hd (cs := #[.int .i64 0, .int .i64 0, .int .i64 0]) (t := 23) ?hr ?_; (case hd => rfl); (case hg => rfl); (case hr => first | (go_simp; done) | (go_simp; rfl))
                        intro gb231 hg w32 hbox hb
                        have n0_ := Aside0.mk (blk_below (g := gb223) (o := .cells #[.int .i64 (wrap64 (1900 + (Int.tmod (wrap64 (a0)) 1099))), .int .i64 (wrap64 (1 + (wrap64 (Int.tmod a1 12)))), .int .i64 (wrap64 (1 + (wrap64 (Int.tmod a2 28))))] 23 (0, 0)) (by (with_reducible repeat (first | refine blk_drewN ?_ _ | refine blk_drew ?_ | refine blk_alloc ?_ _)); exact BK223.out) hb)
                        have n1_ := Aside0.mk (blk_below (g := gb226) (o := .cells #[.int .i64 (wrap64 ((wrap64 (1900 + (Int.tmod (wrap64 (a0)) 1099))) + 1)), .int .i64 (wrap64 (1 + (wrap64 (Int.tmod a1 12)))), .int .i64 (wrap64 (1 + (wrap64 (Int.tmod a2 28))))] 23 (0, 0)) (by (with_reducible repeat (first | refine blk_drewN ?_ _ | refine blk_drew ?_ | refine blk_alloc ?_ _)); exact BK226.out) hb)
                        have n2_ := Aside0.mk (blk_below (g := gb230) (o := .cells #[.int .i64 0, .int .i64 0, .int .i64 0] 23 (0, 0)) (by (with_reducible repeat (first | refine blk_drewN ?_ _ | refine blk_drew ?_ | refine blk_alloc ?_ _)); exact BK230.out) hb)
                        have n3_ := Aside0.mk (below_step (by repeat (first | (with_reducible first | exact HB.out | apply below_alloc | apply pw_below_drewN | apply below_drew1 | refine below_set ?_ GE223.out | refine below_set ?_ GE226.out | refine below_set ?_ GE230.out) | exact HB.out)) hb)
                        have n4_ := Aside0.mk (hbox)
                        have n5_ := Aside0.mk ((by rw [hg]; exact (below_size (by repeat (first | (with_reducible first | exact HB.out | apply below_alloc | apply pw_below_drewN | apply below_drew1 | refine below_set ?_ GE223.out | refine below_set ?_ GE226.out | refine below_set ?_ GE230.out) | exact HB.out))) : w.heap.size ≤ gb231))
                        have n6_ := Aside0.mk ((by rw [hg]; exact (below_size (by repeat (first | (with_reducible first | exact HB.out | apply below_alloc | apply pw_below_drewN | apply below_drew1 | refine below_set ?_ GE223.out | refine below_set ?_ GE226.out | refine below_set ?_ GE230.out) | exact HB.out))) : w.heap.size ≤ gb231))
                        have n7_ := Aside0.mk ((by rw [hg]; exact Nat.ne_of_lt (blk_lt (g := gb223) (o := .cells #[.int .i64 (wrap64 (1900 + (Int.tmod (wrap64 (a0)) 1099))), .int .i64 (wrap64 (1 + (wrap64 (Int.tmod a1 12)))), .int .i64 (wrap64 (1 + (wrap64 (Int.tmod a2 28))))] 23 (0, 0)) (by (with_reducible repeat (first | refine blk_drewN ?_ _ | refine blk_drew ?_ | refine blk_alloc ?_ _)); exact BK223.out)) : gb223 ≠ gb231))
                        have n8_ := Aside0.mk ((by rw [hg]; exact Nat.ne_of_gt (blk_lt (g := gb223) (o := .cells #[.int .i64 (wrap64 (1900 + (Int.tmod (wrap64 (a0)) 1099))), .int .i64 (wrap64 (1 + (wrap64 (Int.tmod a1 12)))), .int .i64 (wrap64 (1 + (wrap64 (Int.tmod a2 28))))] 23 (0, 0)) (by (with_reducible repeat (first | refine blk_drewN ?_ _ | refine blk_drew ?_ | refine blk_alloc ?_ _)); exact BK223.out)) : gb231 ≠ gb223))
                        have n9_ := Aside0.mk ((by rw [hg]; exact Nat.ne_of_lt (blk_lt (g := gb226) (o := .cells #[.int .i64 (wrap64 ((wrap64 (1900 + (Int.tmod (wrap64 (a0)) 1099))) + 1)), .int .i64 (wrap64 (1 + (wrap64 (Int.tmod a1 12)))), .int .i64 (wrap64 (1 + (wrap64 (Int.tmod a2 28))))] 23 (0, 0)) (by (with_reducible repeat (first | refine blk_drewN ?_ _ | refine blk_drew ?_ | refine blk_alloc ?_ _)); exact BK226.out)) : gb226 ≠ gb231))
                        have n10_ := Aside0.mk ((by rw [hg]; exact Nat.ne_of_gt (blk_lt (g := gb226) (o := .cells #[.int .i64 (wrap64 ((wrap64 (1900 + (Int.tmod (wrap64 (a0)) 1099))) + 1)), .int .i64 (wrap64 (1 + (wrap64 (Int.tmod a1 12)))), .int .i64 (wrap64 (1 + (wrap64 (Int.tmod a2 28))))] 23 (0, 0)) (by (with_reducible repeat (first | refine blk_drewN ?_ _ | refine blk_drew ?_ | refine blk_alloc ?_ _)); exact BK226.out)) : gb231 ≠ gb226))
                        have n11_ := Aside0.mk ((by rw [hg]; exact Nat.ne_of_lt (blk_lt (g := gb230) (o := .cells #[.int .i64 0, .int .i64 0, .int .i64 0] 23 (0, 0)) (by (with_reducible repeat (first | refine blk_drewN ?_ _ | refine blk_drew ?_ | refine blk_alloc ?_ _)); exact BK230.out)) : gb230 ≠ gb231))
                        have n12_ := Aside0.mk ((by rw [hg]; exact Nat.ne_of_gt (blk_lt (g := gb230) (o := .cells #[.int .i64 0, .int .i64 0, .int .i64 0] 23 (0, 0)) (by (with_reducible repeat (first | refine blk_drewN ?_ _ | refine blk_drew ?_ | refine blk_alloc ?_ _)); exact BK230.out)) : gb231 ≠ gb230))
                        clear BK223
                        clear BK226
                        clear BK230
                        clear HB
                        have BK223 := n0_
                        have BK226 := n1_
                        have BK230 := n2_
                        have HB := n3_
                        have BK231 := n4_
                        have GW231 := n5_
                        have GE231 := n6_
                        have NB223_231 := n7_
                        have NB231_223 := n8_
                        have NB226_231 := n9_
                        have NB231_226 := n10_
                        have NB230_231 := n11_
                        have NB231_230 := n12_
                        clear n0_ n1_ n2_ n3_ n4_ n5_ n6_ n7_ n8_ n9_ n10_ n11_ n12_
                        clear hb hbox hg
                        refine hK.out _ _ ⟨(blk_cell BK223.out 0).trans rfl, (blk_cell BK223.out 1).trans rfl, (blk_cell BK223.out 2).trans rfl⟩ (fun hHeld => ?_)
                        clear hK K
                        refine norm_ (a' := ?_) ?_ ?_
                        rotate_left
                        · show Act.put _ (some 15) _ = _
                          simp only [Act.put, List.setIfInBounds_toArray, List.set_cons_zero, List.set_cons_succ, i64_w, i32_w]
                          rfl
                        exact norm_ (by simp only [putAll, Act.put, List.setIfInBounds_toArray, List.set_cons_zero, List.set_cons_succ]) (hCont (gb230, gb231) _ ⟨hHeld, (by (with_reducible repeat (first | refine blk_drewN ?_ _ | refine blk_drew ?_ | refine blk_alloc ?_ _)); exact BK223.out), (by (with_reducible repeat (first | refine blk_drewN ?_ _ | refine blk_drew ?_ | refine blk_alloc ?_ _)); exact BK226.out), (by (with_reducible repeat (first | refine blk_drewN ?_ _ | refine blk_drew ?_ | refine blk_alloc ?_ _)); exact BK230.out), (by (with_reducible repeat (first | refine blk_drewN ?_ _ | refine blk_drew ?_ | refine blk_alloc ?_ _)); exact BK231.out), GW230.out, GE230.out, NB223_230.out, NB230_223.out, NB226_230.out, NB230_226.out, NB231_230.out, NB230_231.out, GW231.out, GE231.out, NB223_231.out, NB231_223.out, NB226_231.out, NB231_226.out, (by repeat (first | (with_reducible first | exact HB.out | apply below_alloc | apply pw_below_drewN | apply below_drew1 | refine below_set ?_ GE223.out | refine below_set ?_ GE226.out | refine below_set ?_ GE230.out | refine below_set ?_ GE231.out) | exact HB.out))⟩)
                      · skip
                        refine box_step ?hg (N := 15) ?hd (cs := #[.int .i64 0, .int .i64 0, .int .i64 0]) (t := 23) ?hr ?_; (case hd => rfl); (case hg => rfl); (case hr => first | (go_simp; done) | (go_simp; rfl))
                        intro gb231 hg w31 hbox hb
                        have n0_ := Aside0.mk (blk_below (g := gb223) (o := .cells #[.int .i64 (wrap64 (1900 + (Int.tmod (wrap64 (a0)) 1099))), .int .i64 (wrap64 (1 + (wrap64 (Int.tmod a1 12)))), .int .i64 (wrap64 (1 + (wrap64 (Int.tmod a2 28))))] 23 (0, 0)) (by (with_reducible repeat (first | refine blk_drewN ?_ _ | refine blk_drew ?_ | refine blk_alloc ?_ _)); exact BK223.out) hb)
                        have n1_ := Aside0.mk (blk_below (g := gb226) (o := .cells #[.int .i64 (wrap64 ((wrap64 (1900 + (Int.tmod (wrap64 (a0)) 1099))) + 1)), .int .i64 (wrap64 (1 + (wrap64 (Int.tmod a1 12)))), .int .i64 (wrap64 (1 + (wrap64 (Int.tmod a2 28))))] 23 (0, 0)) (by (with_reducible repeat (first | refine blk_drewN ?_ _ | refine blk_drew ?_ | refine blk_alloc ?_ _)); exact BK226.out) hb)
                        have n2_ := Aside0.mk (below_step (by repeat (first | (with_reducible first | exact HB.out | apply below_alloc | apply pw_below_drewN | apply below_drew1 | refine below_set ?_ GE223.out | refine below_set ?_ GE226.out) | exact HB.out)) hb)
                        have n3_ := Aside0.mk (hbox)
                        have n4_ := Aside0.mk ((by rw [hg]; exact (below_size (by repeat (first | (with_reducible first | exact HB.out | apply below_alloc | apply pw_below_drewN | apply below_drew1 | refine below_set ?_ GE223.out | refine below_set ?_ GE226.out) | exact HB.out))) : w.heap.size ≤ gb231))
                        have n5_ := Aside0.mk ((by rw [hg]; exact (below_size (by repeat (first | (with_reducible first | exact HB.out | apply below_alloc | apply pw_below_drewN | apply below_drew1 | refine below_set ?_ GE223.out | refine below_set ?_ GE226.out) | exact HB.out))) : w.heap.size ≤ gb231))
                        have n6_ := Aside0.mk ((by rw [hg]; exact Nat.ne_of_lt (blk_lt (g := gb223) (o := .cells #[.int .i64 (wrap64 (1900 + (Int.tmod (wrap64 (a0)) 1099))), .int .i64 (wrap64 (1 + (wrap64 (Int.tmod a1 12)))), .int .i64 (wrap64 (1 + (wrap64 (Int.tmod a2 28))))] 23 (0, 0)) (by (with_reducible repeat (first | refine blk_drewN ?_ _ | refine blk_drew ?_ | refine blk_alloc ?_ _)); exact BK223.out)) : gb223 ≠ gb231))
                        have n7_ := Aside0.mk ((by rw [hg]; exact Nat.ne_of_gt (blk_lt (g := gb223) (o := .cells #[.int .i64 (wrap64 (1900 + (Int.tmod (wrap64 (a0)) 1099))), .int .i64 (wrap64 (1 + (wrap64 (Int.tmod a1 12)))), .int .i64 (wrap64 (1 + (wrap64 (Int.tmod a2 28))))] 23 (0, 0)) (by (with_reducible repeat (first | refine blk_drewN ?_ _ | refine blk_drew ?_ | refine blk_alloc ?_ _)); exact BK223.out)) : gb231 ≠ gb223))
                        have n8_ := Aside0.mk ((by rw [hg]; exact Nat.ne_of_lt (blk_lt (g := gb226) (o := .cells #[.int .i64 (wrap64 ((wrap64 (1900 + (Int.tmod (wrap64 (a0)) 1099))) + 1)), .int .i64 (wrap64 (1 + (wrap64 (Int.tmod a1 12)))), .int .i64 (wrap64 (1 + (wrap64 (Int.tmod a2 28))))] 23 (0, 0)) (by (with_reducible repeat (first | refine blk_drewN ?_ _ | refine blk_drew ?_ | refine blk_alloc ?_ _)); exact BK226.out)) : gb226 ≠ gb231))
                        have n9_ := Aside0.mk ((by rw [hg]; exact Nat.ne_of_gt (blk_lt (g := gb226) (o := .cells #[.int .i64 (wrap64 ((wrap64 (1900 + (Int.tmod (wrap64 (a0)) 1099))) + 1)), .int .i64 (wrap64 (1 + (wrap64 (Int.tmod a1 12)))), .int .i64 (wrap64 (1 + (wrap64 (Int.tmod a2 28))))] 23 (0, 0)) (by (with_reducible repeat (first | refine blk_drewN ?_ _ | refine blk_drew ?_ | refine blk_alloc ?_ _)); exact BK226.out)) : gb231 ≠ gb226))
                        clear BK223
                        clear BK226
                        clear HB
                        have BK223 := n0_
                        have BK226 := n1_
                        have HB := n2_
                        have BK231 := n3_
                        have GW231 := n4_
                        have GE231 := n5_
                        have NB223_231 := n6_
                        have NB231_223 := n7_
                        have NB226_231 := n8_
                        have NB231_226 := n9_
                        clear n0_ n1_ n2_ n3_ n4_ n5_ n6_ n7_ n8_ n9_
                        clear hb hbox hg
                        refine hK.out _ _ ⟨(blk_cell BK223.out 0).trans rfl, (blk_cell BK223.out 1).trans rfl, (blk_cell BK223.out 2).trans rfl⟩ (fun hHeld => ?_)
                        clear hK K
                        refine norm_ (a' := ?_) ?_ ?_
                        rotate_left
                        · show Act.put _ (some 15) _ = _
                          simp only [Act.put, List.setIfInBounds_toArray, List.set_cons_zero, List.set_cons_succ, i64_w, i32_w]
                          rfl
                        refine one_ (i := 11) (N := some 14) #[true, true, true, true, true, true, true, true, true, true, true, true, true, false, false] rfl rfl (one_of HT_.out (by kernel_rfl)) (by decide) (fun K hK => ?_)
                        refine box_step ?hg (N := 14) ?hd (cs := #[.int .i64 0, .int .i64 0, .int .i64 0]) (t := 23) ?hr ?_; (case hd => rfl); (case hg => rfl); (case hr => first | (go_simp; done) | (go_simp; rfl))
                        intro gb230 hg w32 hbox hb
                        have n0_ := Aside0.mk (blk_below (g := gb223) (o := .cells #[.int .i64 (wrap64 (1900 + (Int.tmod (wrap64 (a0)) 1099))), .int .i64 (wrap64 (1 + (wrap64 (Int.tmod a1 12)))), .int .i64 (wrap64 (1 + (wrap64 (Int.tmod a2 28))))] 23 (0, 0)) (by (with_reducible repeat (first | refine blk_drewN ?_ _ | refine blk_drew ?_ | refine blk_alloc ?_ _)); exact BK223.out) hb)
                        have n1_ := Aside0.mk (blk_below (g := gb226) (o := .cells #[.int .i64 (wrap64 ((wrap64 (1900 + (Int.tmod (wrap64 (a0)) 1099))) + 1)), .int .i64 (wrap64 (1 + (wrap64 (Int.tmod a1 12)))), .int .i64 (wrap64 (1 + (wrap64 (Int.tmod a2 28))))] 23 (0, 0)) (by (with_reducible repeat (first | refine blk_drewN ?_ _ | refine blk_drew ?_ | refine blk_alloc ?_ _)); exact BK226.out) hb)
                        have n2_ := Aside0.mk (blk_below (g := gb231) (o := .cells #[.int .i64 0, .int .i64 0, .int .i64 0] 23 (0, 0)) (by (with_reducible repeat (first | refine blk_drewN ?_ _ | refine blk_drew ?_ | refine blk_alloc ?_ _)); exact BK231.out) hb)
                        have n3_ := Aside0.mk (below_step (by repeat (first | (with_reducible first | exact HB.out | apply below_alloc | apply pw_below_drewN | apply below_drew1 | refine below_set ?_ GE223.out | refine below_set ?_ GE226.out | refine below_set ?_ GE231.out) | exact HB.out)) hb)
                        have n4_ := Aside0.mk (hbox)
                        have n5_ := Aside0.mk ((by rw [hg]; exact (below_size (by repeat (first | (with_reducible first | exact HB.out | apply below_alloc | apply pw_below_drewN | apply below_drew1 | refine below_set ?_ GE223.out | refine below_set ?_ GE226.out | refine below_set ?_ GE231.out) | exact HB.out))) : w.heap.size ≤ gb230))
                        have n6_ := Aside0.mk ((by rw [hg]; exact (below_size (by repeat (first | (with_reducible first | exact HB.out | apply below_alloc | apply pw_below_drewN | apply below_drew1 | refine below_set ?_ GE223.out | refine below_set ?_ GE226.out | refine below_set ?_ GE231.out) | exact HB.out))) : w.heap.size ≤ gb230))
                        have n7_ := Aside0.mk ((by rw [hg]; exact Nat.ne_of_lt (blk_lt (g := gb223) (o := .cells #[.int .i64 (wrap64 (1900 + (Int.tmod (wrap64 (a0)) 1099))), .int .i64 (wrap64 (1 + (wrap64 (Int.tmod a1 12)))), .int .i64 (wrap64 (1 + (wrap64 (Int.tmod a2 28))))] 23 (0, 0)) (by (with_reducible repeat (first | refine blk_drewN ?_ _ | refine blk_drew ?_ | refine blk_alloc ?_ _)); exact BK223.out)) : gb223 ≠ gb230))
                        have n8_ := Aside0.mk ((by rw [hg]; exact Nat.ne_of_gt (blk_lt (g := gb223) (o := .cells #[.int .i64 (wrap64 (1900 + (Int.tmod (wrap64 (a0)) 1099))), .int .i64 (wrap64 (1 + (wrap64 (Int.tmod a1 12)))), .int .i64 (wrap64 (1 + (wrap64 (Int.tmod a2 28))))] 23 (0, 0)) (by (with_reducible repeat (first | refine blk_drewN ?_ _ | refine blk_drew ?_ | refine blk_alloc ?_ _)); exact BK223.out)) : gb230 ≠ gb223))
                        have n9_ := Aside0.mk ((by rw [hg]; exact Nat.ne_of_lt (blk_lt (g := gb226) (o := .cells #[.int .i64 (wrap64 ((wrap64 (1900 + (Int.tmod (wrap64 (a0)) 1099))) + 1)), .int .i64 (wrap64 (1 + (wrap64 (Int.tmod a1 12)))), .int .i64 (wrap64 (1 + (wrap64 (Int.tmod a2 28))))] 23 (0, 0)) (by (with_reducible repeat (first | refine blk_drewN ?_ _ | refine blk_drew ?_ | refine blk_alloc ?_ _)); exact BK226.out)) : gb226 ≠ gb230))
                        have n10_ := Aside0.mk ((by rw [hg]; exact Nat.ne_of_gt (blk_lt (g := gb226) (o := .cells #[.int .i64 (wrap64 ((wrap64 (1900 + (Int.tmod (wrap64 (a0)) 1099))) + 1)), .int .i64 (wrap64 (1 + (wrap64 (Int.tmod a1 12)))), .int .i64 (wrap64 (1 + (wrap64 (Int.tmod a2 28))))] 23 (0, 0)) (by (with_reducible repeat (first | refine blk_drewN ?_ _ | refine blk_drew ?_ | refine blk_alloc ?_ _)); exact BK226.out)) : gb230 ≠ gb226))
                        have n11_ := Aside0.mk ((by rw [hg]; exact Nat.ne_of_lt (blk_lt (g := gb231) (o := .cells #[.int .i64 0, .int .i64 0, .int .i64 0] 23 (0, 0)) (by (with_reducible repeat (first | refine blk_drewN ?_ _ | refine blk_drew ?_ | refine blk_alloc ?_ _)); exact BK231.out)) : gb231 ≠ gb230))
                        have n12_ := Aside0.mk ((by rw [hg]; exact Nat.ne_of_gt (blk_lt (g := gb231) (o := .cells #[.int .i64 0, .int .i64 0, .int .i64 0] 23 (0, 0)) (by (with_reducible repeat (first | refine blk_drewN ?_ _ | refine blk_drew ?_ | refine blk_alloc ?_ _)); exact BK231.out)) : gb230 ≠ gb231))
                        clear BK223
                        clear BK226
                        clear BK231
                        clear HB
                        have BK223 := n0_
                        have BK226 := n1_
                        have BK231 := n2_
                        have HB := n3_
                        have BK230 := n4_
                        have GW230 := n5_
                        have GE230 := n6_
                        have NB223_230 := n7_
                        have NB230_223 := n8_
                        have NB226_230 := n9_
                        have NB230_226 := n10_
                        have NB231_230 := n11_
                        have NB230_231 := n12_
                        clear n0_ n1_ n2_ n3_ n4_ n5_ n6_ n7_ n8_ n9_ n10_ n11_ n12_
                        clear hb hbox hg
                        refine hK.out _ _ ⟨(blk_cell BK223.out 0).trans rfl, (blk_cell BK223.out 1).trans rfl, (blk_cell BK223.out 2).trans rfl⟩ (fun hHeld => ?_)
                        clear hK K
                        refine norm_ (a' := ?_) ?_ ?_
                        rotate_left
                        · show Act.put _ (some 14) _ = _
                          simp only [Act.put, List.setIfInBounds_toArray, List.set_cons_zero, List.set_cons_succ, i64_w, i32_w]
                          rfl
                        exact norm_ (by simp only [putAll, Act.put, List.setIfInBounds_toArray, List.set_cons_zero, List.set_cons_succ]) (hCont (gb230, gb231) _ ⟨hHeld, (by (with_reducible repeat (first | refine blk_drewN ?_ _ | refine blk_drew ?_ | refine blk_alloc ?_ _)); exact BK223.out), (by (with_reducible repeat (first | refine blk_drewN ?_ _ | refine blk_drew ?_ | refine blk_alloc ?_ _)); exact BK226.out), (by (with_reducible repeat (first | refine blk_drewN ?_ _ | refine blk_drew ?_ | refine blk_alloc ?_ _)); exact BK230.out), (by (with_reducible repeat (first | refine blk_drewN ?_ _ | refine blk_drew ?_ | refine blk_alloc ?_ _)); exact BK231.out), GW230.out, GE230.out, NB223_230.out, NB230_223.out, NB226_230.out, NB230_226.out, NB231_230.out, NB230_231.out, GW231.out, GE231.out, NB223_231.out, NB231_223.out, NB226_231.out, NB231_226.out, (by repeat (first | (with_reducible first | exact HB.out | apply below_alloc | apply pw_below_drewN | apply below_drew1 | refine below_set ?_ GE223.out | refine below_set ?_ GE226.out | refine below_set ?_ GE231.out | refine below_set ?_ GE230.out) | exact HB.out))⟩)
                    rintro ⟨gb230, gb231⟩ w33 ⟨hS_, h0_, h1_, h2_, h3_, h4_, h5_, h6_, h7_, h8_, h9_, h10_, h11_, h12_, h13_, h14_, h15_, h16_, h17_, h18_⟩
                    have n0_ : Aside0 (w33.heap[gb223]? = some (.cells #[.int .i64 (wrap64 (1900 + (Int.tmod (wrap64 (a0)) 1099))), .int .i64 (wrap64 (1 + (wrap64 (Int.tmod a1 12)))), .int .i64 (wrap64 (1 + (wrap64 (Int.tmod a2 28))))] 23 (0, 0))) := ⟨h0_⟩
                    have n1_ : Aside0 (w33.heap[gb226]? = some (.cells #[.int .i64 (wrap64 ((wrap64 (1900 + (Int.tmod (wrap64 (a0)) 1099))) + 1)), .int .i64 (wrap64 (1 + (wrap64 (Int.tmod a1 12)))), .int .i64 (wrap64 (1 + (wrap64 (Int.tmod a2 28))))] 23 (0, 0))) := ⟨h1_⟩
                    have n2_ : Aside0 (w33.heap[gb230]? = some (.cells #[.int .i64 0, .int .i64 0, .int .i64 0] 23 (0, 0))) := ⟨h2_⟩
                    have n3_ : Aside0 (w33.heap[gb231]? = some (.cells #[.int .i64 0, .int .i64 0, .int .i64 0] 23 (0, 0))) := ⟨h3_⟩
                    have n4_ : Aside0 (w.heap.size ≤ gb230) := ⟨h4_⟩
                    have n5_ : Aside0 (w.heap.size ≤ gb230) := ⟨h5_⟩
                    have n6_ : Aside0 (gb223 ≠ gb230) := ⟨h6_⟩
                    have n7_ : Aside0 (gb230 ≠ gb223) := ⟨h7_⟩
                    have n8_ : Aside0 (gb226 ≠ gb230) := ⟨h8_⟩
                    have n9_ : Aside0 (gb230 ≠ gb226) := ⟨h9_⟩
                    have n10_ : Aside0 (gb231 ≠ gb230) := ⟨h10_⟩
                    have n11_ : Aside0 (gb230 ≠ gb231) := ⟨h11_⟩
                    have n12_ : Aside0 (w.heap.size ≤ gb231) := ⟨h12_⟩
                    have n13_ : Aside0 (w.heap.size ≤ gb231) := ⟨h13_⟩
                    have n14_ : Aside0 (gb223 ≠ gb231) := ⟨h14_⟩
                    have n15_ : Aside0 (gb231 ≠ gb223) := ⟨h15_⟩
                    have n16_ : Aside0 (gb226 ≠ gb231) := ⟨h16_⟩
                    have n17_ : Aside0 (gb231 ≠ gb226) := ⟨h17_⟩
                    have n18_ : Aside0 (Below w.heap.size w w33) := ⟨h18_⟩
                    clear BK223
                    clear BK226
                    clear HB
                    clear h0_ h1_ h2_ h3_ h4_ h5_ h6_ h7_ h8_ h9_ h10_ h11_ h12_ h13_ h14_ h15_ h16_ h17_ h18_
                    have BK223 := n0_
                    have BK226 := n1_
                    have BK230 := n2_
                    have BK231 := n3_
                    have GW230 := n4_
                    have GE230 := n5_
                    have NB223_230 := n6_
                    have NB230_223 := n7_
                    have NB226_230 := n8_
                    have NB230_226 := n9_
                    have NB231_230 := n10_
                    have NB230_231 := n11_
                    have GW231 := n12_
                    have GE231 := n13_
                    have NB223_231 := n14_
                    have NB231_223 := n15_
                    have NB226_231 := n16_
                    have NB231_226 := n17_
                    have HB := n18_
                    clear n0_ n1_ n2_ n3_ n4_ n5_ n6_ n7_ n8_ n9_ n10_ n11_ n12_ n13_ n14_ n15_ n16_ n17_ n18_
                    have hHeld : w33.cell? ⟨gb223, 0, none⟩ = some (.int .i64 (wrap64 (1900 + (Int.tmod (wrap64 (a0)) 1099)))) ∧ w33.cell? ⟨gb223, 1, none⟩ = some (.int .i64 (wrap64 (1 + (wrap64 (Int.tmod a1 12))))) ∧ w33.cell? ⟨gb223, 2, none⟩ = some (.int .i64 (wrap64 (1 + (wrap64 (Int.tmod a2 28))))) := hS_
                    refine norm_ (a' := ?_) ?_ ?_
                    rotate_left
                    · simp only [putAll, Act.put, List.setIfInBounds_toArray, List.set_cons_zero, List.set_cons_succ]
                      rfl
                    refine one_ (i := 13) (N := none) #[true, true, true, true, true, true, true, true, true, true, true, true, true, true, false] rfl rfl (one_of HT_.out (by kernel_rfl)) (by decide) (fun K hK => ?_)
                    have hs34 : w33.cell? ⟨gb230, 0, none⟩ = some (.int .i64 0) := (blk_cell BK230.out 0).trans rfl
                    have hfs34 := blk_frozen BK230.out 0
                    have hns34_0 := NB223_230.out
                    have hns34_1 := NB226_230.out
                    have hns34_3 := NB231_230.out
                    have hms34_0 := NB230_223.out
                    have hms34_1 := NB230_226.out
                    have hms34_3 := NB230_231.out
                    have hs35 : w33.cell? ⟨gb230, 1, none⟩ = some (.int .i64 0) := (blk_cell BK230.out 1).trans rfl
                    have hfs35 := blk_frozen BK230.out 1
                    have hns35_0 := NB223_230.out
                    have hns35_1 := NB226_230.out
                    have hns35_3 := NB231_230.out
                    have hms35_0 := NB230_223.out
                    have hms35_1 := NB230_226.out
                    have hms35_3 := NB230_231.out
                    have hs36 : w33.cell? ⟨gb230, 2, none⟩ = some (.int .i64 0) := (blk_cell BK230.out 2).trans rfl
                    have hfs36 := blk_frozen BK230.out 2
                    have hns36_0 := NB223_230.out
                    have hns36_1 := NB226_230.out
                    have hns36_3 := NB231_230.out
                    have hms36_0 := NB230_223.out
                    have hms36_1 := NB230_226.out
                    have hms36_3 := NB230_231.out
                    refine skip_ (w1 := ?_) (by rfl) rfl ?_ ?_
                    rotate_left
                    · go_simp
                      rfl
                    refine hK.out _ _ ⟨((cell_far (p := ⟨gb230, _, none⟩) NB223_230.out _).trans (((cell_far (p := ⟨gb230, _, none⟩) NB223_230.out _).trans (((cell_far (p := ⟨gb230, _, none⟩) NB223_230.out _).trans (hHeld.1)))))), ((cell_far (p := ⟨gb230, _, none⟩) NB223_230.out _).trans (((cell_far (p := ⟨gb230, _, none⟩) NB223_230.out _).trans (((cell_far (p := ⟨gb230, _, none⟩) NB223_230.out _).trans (hHeld.2.1)))))), ((cell_far (p := ⟨gb230, _, none⟩) NB223_230.out _).trans (((cell_far (p := ⟨gb230, _, none⟩) NB223_230.out _).trans (((cell_far (p := ⟨gb230, _, none⟩) NB223_230.out _).trans (hHeld.2.2))))))⟩ (fun hHeld => ?_)
                    clear hK K
                    refine one_ (i := 14) (N := none) #[true, true, true, true, true, true, true, true, true, true, true, true, true, true, true] rfl rfl (one_of HT_.out (by kernel_rfl)) (by decide) (fun K hK => ?_)
                    have hs37 : w33.cell? ⟨gb231, 0, none⟩ = some (.int .i64 0) := (blk_cell BK231.out 0).trans rfl
                    have hfs37 := blk_frozen BK231.out 0
                    have hns37_0 := NB223_231.out
                    have hns37_1 := NB226_231.out
                    have hns37_2 := NB230_231.out
                    have hms37_0 := NB231_223.out
                    have hms37_1 := NB231_226.out
                    have hms37_2 := NB231_230.out
                    have hs38 : w33.cell? ⟨gb231, 1, none⟩ = some (.int .i64 0) := (blk_cell BK231.out 1).trans rfl
                    have hfs38 := blk_frozen BK231.out 1
                    have hns38_0 := NB223_231.out
                    have hns38_1 := NB226_231.out
                    have hns38_2 := NB230_231.out
                    have hms38_0 := NB231_223.out
                    have hms38_1 := NB231_226.out
                    have hms38_2 := NB231_230.out
                    have hs39 : w33.cell? ⟨gb231, 2, none⟩ = some (.int .i64 0) := (blk_cell BK231.out 2).trans rfl
                    have hfs39 := blk_frozen BK231.out 2
                    have hns39_0 := NB223_231.out
                    have hns39_1 := NB226_231.out
                    have hns39_2 := NB230_231.out
                    have hms39_0 := NB231_223.out
                    have hms39_1 := NB231_226.out
                    have hms39_2 := NB231_230.out
                    refine skip_ (w1 := ?_) (by rfl) rfl ?_ ?_
                    rotate_left
                    · go_simp
                      rfl
                    refine hK.out _ _ ⟨((cell_far (p := ⟨gb231, _, none⟩) NB223_231.out _).trans (((cell_far (p := ⟨gb231, _, none⟩) NB223_231.out _).trans (((cell_far (p := ⟨gb231, _, none⟩) NB223_231.out _).trans (hHeld.1)))))), ((cell_far (p := ⟨gb231, _, none⟩) NB223_231.out _).trans (((cell_far (p := ⟨gb231, _, none⟩) NB223_231.out _).trans (((cell_far (p := ⟨gb231, _, none⟩) NB223_231.out _).trans (hHeld.2.1)))))), ((cell_far (p := ⟨gb231, _, none⟩) NB223_231.out _).trans (((cell_far (p := ⟨gb231, _, none⟩) NB223_231.out _).trans (((cell_far (p := ⟨gb231, _, none⟩) NB223_231.out _).trans (hHeld.2.2))))))⟩ (fun hHeld => ?_)
                    clear hK K
                    refine done_ (done_of HT_.out (by kernel_rfl)) ?_
                    try go_wp2
                    have n0_ : Aside0 (((((((w33.setCell ⟨gb230, 0, none⟩ (.int .i64 (wrap64 (1900 + (Int.tmod (wrap64 (a0)) 1099))))).setCell ⟨gb230, 1, none⟩ (.int .i64 (wrap64 (1 + (wrap64 (Int.tmod a1 12)))))).setCell ⟨gb230, 2, none⟩ (.int .i64 1)).setCell ⟨gb231, 0, none⟩ (.int .i64 (wrap64 (1900 + (Int.tmod (wrap64 (a0)) 1099))))).setCell ⟨gb231, 1, none⟩ (.int .i64 (wrap64 (1 + (wrap64 (Int.tmod a1 12)))))).setCell ⟨gb231, 2, none⟩ (.int .i64 t229)).heap[gb223]? = some (.cells #[.int .i64 (wrap64 (1900 + (Int.tmod (wrap64 (a0)) 1099))), .int .i64 (wrap64 (1 + (wrap64 (Int.tmod a1 12)))), .int .i64 (wrap64 (1 + (wrap64 (Int.tmod a2 28))))] 23 (0, 0))) := ⟨by (with_reducible repeat (first | refine blk_drewN ?_ _ | refine blk_drew ?_ | refine blk_alloc ?_ _)); refine blk_far ?_ NB223_231.out _; (with_reducible repeat (first | refine blk_drewN ?_ _ | refine blk_drew ?_ | refine blk_alloc ?_ _)); refine blk_far ?_ NB223_231.out _; (with_reducible repeat (first | refine blk_drewN ?_ _ | refine blk_drew ?_ | refine blk_alloc ?_ _)); refine blk_far ?_ NB223_231.out _; (with_reducible repeat (first | refine blk_drewN ?_ _ | refine blk_drew ?_ | refine blk_alloc ?_ _)); refine blk_far ?_ NB223_230.out _; (with_reducible repeat (first | refine blk_drewN ?_ _ | refine blk_drew ?_ | refine blk_alloc ?_ _)); refine blk_far ?_ NB223_230.out _; (with_reducible repeat (first | refine blk_drewN ?_ _ | refine blk_drew ?_ | refine blk_alloc ?_ _)); refine blk_far ?_ NB223_230.out _; (with_reducible repeat (first | refine blk_drewN ?_ _ | refine blk_drew ?_ | refine blk_alloc ?_ _)); exact BK223.out⟩
                    have n1_ : Aside0 (((((((w33.setCell ⟨gb230, 0, none⟩ (.int .i64 (wrap64 (1900 + (Int.tmod (wrap64 (a0)) 1099))))).setCell ⟨gb230, 1, none⟩ (.int .i64 (wrap64 (1 + (wrap64 (Int.tmod a1 12)))))).setCell ⟨gb230, 2, none⟩ (.int .i64 1)).setCell ⟨gb231, 0, none⟩ (.int .i64 (wrap64 (1900 + (Int.tmod (wrap64 (a0)) 1099))))).setCell ⟨gb231, 1, none⟩ (.int .i64 (wrap64 (1 + (wrap64 (Int.tmod a1 12)))))).setCell ⟨gb231, 2, none⟩ (.int .i64 t229)).heap[gb226]? = some (.cells #[.int .i64 (wrap64 ((wrap64 (1900 + (Int.tmod (wrap64 (a0)) 1099))) + 1)), .int .i64 (wrap64 (1 + (wrap64 (Int.tmod a1 12)))), .int .i64 (wrap64 (1 + (wrap64 (Int.tmod a2 28))))] 23 (0, 0))) := ⟨by (with_reducible repeat (first | refine blk_drewN ?_ _ | refine blk_drew ?_ | refine blk_alloc ?_ _)); refine blk_far ?_ NB226_231.out _; (with_reducible repeat (first | refine blk_drewN ?_ _ | refine blk_drew ?_ | refine blk_alloc ?_ _)); refine blk_far ?_ NB226_231.out _; (with_reducible repeat (first | refine blk_drewN ?_ _ | refine blk_drew ?_ | refine blk_alloc ?_ _)); refine blk_far ?_ NB226_231.out _; (with_reducible repeat (first | refine blk_drewN ?_ _ | refine blk_drew ?_ | refine blk_alloc ?_ _)); refine blk_far ?_ NB226_230.out _; (with_reducible repeat (first | refine blk_drewN ?_ _ | refine blk_drew ?_ | refine blk_alloc ?_ _)); refine blk_far ?_ NB226_230.out _; (with_reducible repeat (first | refine blk_drewN ?_ _ | refine blk_drew ?_ | refine blk_alloc ?_ _)); refine blk_far ?_ NB226_230.out _; (with_reducible repeat (first | refine blk_drewN ?_ _ | refine blk_drew ?_ | refine blk_alloc ?_ _)); exact BK226.out⟩
                    have n2_ : Aside0 (((((((w33.setCell ⟨gb230, 0, none⟩ (.int .i64 (wrap64 (1900 + (Int.tmod (wrap64 (a0)) 1099))))).setCell ⟨gb230, 1, none⟩ (.int .i64 (wrap64 (1 + (wrap64 (Int.tmod a1 12)))))).setCell ⟨gb230, 2, none⟩ (.int .i64 1)).setCell ⟨gb231, 0, none⟩ (.int .i64 (wrap64 (1900 + (Int.tmod (wrap64 (a0)) 1099))))).setCell ⟨gb231, 1, none⟩ (.int .i64 (wrap64 (1 + (wrap64 (Int.tmod a1 12)))))).setCell ⟨gb231, 2, none⟩ (.int .i64 t229)).heap[gb230]? = some (.cells #[.int .i64 (wrap64 (1900 + (Int.tmod (wrap64 (a0)) 1099))), .int .i64 (wrap64 (1 + (wrap64 (Int.tmod a1 12)))), .int .i64 1] 23 (0, 0))) := ⟨by (with_reducible repeat (first | refine blk_drewN ?_ _ | refine blk_drew ?_ | refine blk_alloc ?_ _)); refine blk_far ?_ NB230_231.out _; (with_reducible repeat (first | refine blk_drewN ?_ _ | refine blk_drew ?_ | refine blk_alloc ?_ _)); refine blk_far ?_ NB230_231.out _; (with_reducible repeat (first | refine blk_drewN ?_ _ | refine blk_drew ?_ | refine blk_alloc ?_ _)); refine blk_far ?_ NB230_231.out _; (with_reducible repeat (first | refine blk_drewN ?_ _ | refine blk_drew ?_ | refine blk_alloc ?_ _)); refine blk_put (cs := #[.int .i64 (wrap64 (1900 + (Int.tmod (wrap64 (a0)) 1099))), .int .i64 (wrap64 (1 + (wrap64 (Int.tmod a1 12)))), .int .i64 0]) ?_ 2 _ rfl; (with_reducible repeat (first | refine blk_drewN ?_ _ | refine blk_drew ?_ | refine blk_alloc ?_ _)); refine blk_put (cs := #[.int .i64 (wrap64 (1900 + (Int.tmod (wrap64 (a0)) 1099))), .int .i64 0, .int .i64 0]) ?_ 1 _ rfl; (with_reducible repeat (first | refine blk_drewN ?_ _ | refine blk_drew ?_ | refine blk_alloc ?_ _)); refine blk_put (cs := #[.int .i64 0, .int .i64 0, .int .i64 0]) ?_ 0 _ rfl; (with_reducible repeat (first | refine blk_drewN ?_ _ | refine blk_drew ?_ | refine blk_alloc ?_ _)); exact BK230.out⟩
                    have n3_ : Aside0 (((((((w33.setCell ⟨gb230, 0, none⟩ (.int .i64 (wrap64 (1900 + (Int.tmod (wrap64 (a0)) 1099))))).setCell ⟨gb230, 1, none⟩ (.int .i64 (wrap64 (1 + (wrap64 (Int.tmod a1 12)))))).setCell ⟨gb230, 2, none⟩ (.int .i64 1)).setCell ⟨gb231, 0, none⟩ (.int .i64 (wrap64 (1900 + (Int.tmod (wrap64 (a0)) 1099))))).setCell ⟨gb231, 1, none⟩ (.int .i64 (wrap64 (1 + (wrap64 (Int.tmod a1 12)))))).setCell ⟨gb231, 2, none⟩ (.int .i64 t229)).heap[gb231]? = some (.cells #[.int .i64 (wrap64 (1900 + (Int.tmod (wrap64 (a0)) 1099))), .int .i64 (wrap64 (1 + (wrap64 (Int.tmod a1 12)))), .int .i64 t229] 23 (0, 0))) := ⟨by (with_reducible repeat (first | refine blk_drewN ?_ _ | refine blk_drew ?_ | refine blk_alloc ?_ _)); refine blk_put (cs := #[.int .i64 (wrap64 (1900 + (Int.tmod (wrap64 (a0)) 1099))), .int .i64 (wrap64 (1 + (wrap64 (Int.tmod a1 12)))), .int .i64 0]) ?_ 2 _ rfl; (with_reducible repeat (first | refine blk_drewN ?_ _ | refine blk_drew ?_ | refine blk_alloc ?_ _)); refine blk_put (cs := #[.int .i64 (wrap64 (1900 + (Int.tmod (wrap64 (a0)) 1099))), .int .i64 0, .int .i64 0]) ?_ 1 _ rfl; (with_reducible repeat (first | refine blk_drewN ?_ _ | refine blk_drew ?_ | refine blk_alloc ?_ _)); refine blk_put (cs := #[.int .i64 0, .int .i64 0, .int .i64 0]) ?_ 0 _ rfl; (with_reducible repeat (first | refine blk_drewN ?_ _ | refine blk_drew ?_ | refine blk_alloc ?_ _)); refine blk_far ?_ NB231_230.out _; (with_reducible repeat (first | refine blk_drewN ?_ _ | refine blk_drew ?_ | refine blk_alloc ?_ _)); refine blk_far ?_ NB231_230.out _; (with_reducible repeat (first | refine blk_drewN ?_ _ | refine blk_drew ?_ | refine blk_alloc ?_ _)); refine blk_far ?_ NB231_230.out _; (with_reducible repeat (first | refine blk_drewN ?_ _ | refine blk_drew ?_ | refine blk_alloc ?_ _)); exact BK231.out⟩
                    have n4_ : Aside0 (Below w.heap.size w ((((((w33.setCell ⟨gb230, 0, none⟩ (.int .i64 (wrap64 (1900 + (Int.tmod (wrap64 (a0)) 1099))))).setCell ⟨gb230, 1, none⟩ (.int .i64 (wrap64 (1 + (wrap64 (Int.tmod a1 12)))))).setCell ⟨gb230, 2, none⟩ (.int .i64 1)).setCell ⟨gb231, 0, none⟩ (.int .i64 (wrap64 (1900 + (Int.tmod (wrap64 (a0)) 1099))))).setCell ⟨gb231, 1, none⟩ (.int .i64 (wrap64 (1 + (wrap64 (Int.tmod a1 12)))))).setCell ⟨gb231, 2, none⟩ (.int .i64 t229))) := ⟨by repeat (first | (with_reducible first | exact HB.out | apply below_alloc | apply pw_below_drewN | apply below_drew1 | refine below_set ?_ GE223.out | refine below_set ?_ GE226.out | refine below_set ?_ GE230.out | refine below_set ?_ GE231.out) | exact HB.out)⟩
                    (try clear BK223)
                    (try clear BK226)
                    (try clear BK230)
                    (try clear BK231)
                    (try clear HB)
                    generalize ((((((w33.setCell ⟨gb230, 0, none⟩ (.int .i64 (wrap64 (1900 + (Int.tmod (wrap64 (a0)) 1099))))).setCell ⟨gb230, 1, none⟩ (.int .i64 (wrap64 (1 + (wrap64 (Int.tmod a1 12)))))).setCell ⟨gb230, 2, none⟩ (.int .i64 1)).setCell ⟨gb231, 0, none⟩ (.int .i64 (wrap64 (1900 + (Int.tmod (wrap64 (a0)) 1099))))).setCell ⟨gb231, 1, none⟩ (.int .i64 (wrap64 (1 + (wrap64 (Int.tmod a1 12)))))).setCell ⟨gb231, 2, none⟩ (.int .i64 t229)) = w40 at n0_ n1_ n2_ n3_ n4_ ⊢
                    have BK223 := n0_
                    have BK226 := n1_
                    have BK230 := n2_
                    have BK231 := n3_
                    have HB := n4_
                    clear n0_ n1_ n2_ n3_ n4_
                    have n0_ := Aside0.mk (blk_drew BK223.out)
                    have n1_ := Aside0.mk (blk_drew BK226.out)
                    have n2_ := Aside0.mk (blk_drew BK230.out)
                    have n3_ := Aside0.mk (blk_drew BK231.out)
                    have n4_ := Aside0.mk (below_drew1 HB.out)
                    clear BK223
                    clear BK226
                    clear BK230
                    clear BK231
                    clear HB
                    have BK223 := n0_
                    have BK226 := n1_
                    have BK230 := n2_
                    have BK231 := n3_
                    have HB := n4_
                    clear n0_ n1_ n2_ n3_ n4_
                    refine start_ (n := 54) (S := fun w' => w'.cell? ⟨gb230, 0, none⟩ = some (.int .i64 (wrap64 (1900 + (Int.tmod (wrap64 (a0)) 1099)))) ∧ w'.cell? ⟨gb230, 1, none⟩ = some (.int .i64 (wrap64 (1 + (wrap64 (Int.tmod a1 12))))) ∧ w'.cell? ⟨gb230, 2, none⟩ = some (.int .i64 1) ∧ w'.cell? ⟨gb231, 0, none⟩ = some (.int .i64 (wrap64 (1900 + (Int.tmod (wrap64 (a0)) 1099)))) ∧ w'.cell? ⟨gb231, 1, none⟩ = some (.int .i64 (wrap64 (1 + (wrap64 (Int.tmod a1 12))))) ∧ w'.cell? ⟨gb231, 2, none⟩ = some (.int .i64 t229) ∧ w'.cell? ⟨gb223, 0, none⟩ = some (.int .i64 (wrap64 (1900 + (Int.tmod (wrap64 (a0)) 1099)))) ∧ w'.cell? ⟨gb223, 1, none⟩ = some (.int .i64 (wrap64 (1 + (wrap64 (Int.tmod a1 12))))) ∧ w'.cell? ⟨gb223, 2, none⟩ = some (.int .i64 (wrap64 (1 + (wrap64 (Int.tmod a2 28)))))) (ds := []) #[false, false, false, false, false, false, false, false, false, false, false, false, false, false, false, false, false, false, false, false, false, false, false, false, false, false, false, false, false, false, false, false, false, false, false, false, false, false, false, false, false, false, false, false, false, false, false, false, false, false, false, false, false, false] (by kernel_rfl) rfl rfl ⟨(blk_cell BK230.out 0).trans rfl, (blk_cell BK230.out 1).trans rfl, (blk_cell BK230.out 2).trans rfl, (blk_cell BK231.out 0).trans rfl, (blk_cell BK231.out 1).trans rfl, (blk_cell BK231.out 2).trans rfl, (blk_cell BK223.out 0).trans rfl, (blk_cell BK223.out 1).trans rfl, (blk_cell BK223.out 2).trans rfl⟩ (fun hHeld => ?_); refine with_tabW paymasterlaw06_DatesPeriods.tab8 paymasterlaw06_DatesPeriods.bits8 (fun HT_ HW_ => ?_)
                    generalize w40.drew = w41 at BK223 BK226 BK230 BK231 HB hHeld ⊢
                    refine pure_ (i := 0) (N := some 60) (v := ?_) (a' := ?_) #[true, false, false, false, false, false, false, false, false, false, false, false, false, false, false, false, false, false, false, false, false, false, false, false, false, false, false, false, false, false, false, false, false, false, false, false, false, false, false, false, false, false, false, false, false, false, false, false, false, false, false, false, false, false] rfl rfl (any_of HT_.out (by kernel_rfl)) (fun _ _ _ h => h) (Or.inl ⟨by rfl, ?_⟩) ?_ ?_
                    rotate_left
                    · intro w'
                      go_simp
                      with_reducible rfl
                    rotate_left
                    · simp only [Act.put, List.setIfInBounds_toArray, List.set_cons_zero, List.set_cons_succ, i64_w, i32_w]
                      rfl
                    refine pure_ (i := 1) (N := some 61) (v := ?_) (a' := ?_) #[true, true, false, false, false, false, false, false, false, false, false, false, false, false, false, false, false, false, false, false, false, false, false, false, false, false, false, false, false, false, false, false, false, false, false, false, false, false, false, false, false, false, false, false, false, false, false, false, false, false, false, false, false, false] rfl rfl (any_of HT_.out (by kernel_rfl)) (fun _ _ _ h => h) (Or.inl ⟨by rfl, ?_⟩) ?_ ?_
                    rotate_left
                    · intro w'
                      go_simp
                      with_reducible rfl
                    rotate_left
                    · simp only [Act.put, List.setIfInBounds_toArray, List.set_cons_zero, List.set_cons_succ, i64_w, i32_w]
                      rfl
                    refine pure_ (i := 2) (N := some 62) (v := ?_) (a' := ?_) #[true, true, true, false, false, false, false, false, false, false, false, false, false, false, false, false, false, false, false, false, false, false, false, false, false, false, false, false, false, false, false, false, false, false, false, false, false, false, false, false, false, false, false, false, false, false, false, false, false, false, false, false, false, false] rfl rfl (any_of HT_.out (by kernel_rfl)) (fun _ _ _ h => h) (Or.inl ⟨by rfl, ?_⟩) ?_ ?_
                    rotate_left
                    · intro w'
                      go_simp
                      with_reducible rfl
                    rotate_left
                    · simp only [Act.put, List.setIfInBounds_toArray, List.set_cons_zero, List.set_cons_succ, i64_w, i32_w]
                      rfl
                    refine pure_ (i := 3) (N := some 63) (v := ?_) (a' := ?_) #[true, true, true, true, false, false, false, false, false, false, false, false, false, false, false, false, false, false, false, false, false, false, false, false, false, false, false, false, false, false, false, false, false, false, false, false, false, false, false, false, false, false, false, false, false, false, false, false, false, false, false, false, false, false] rfl rfl (any_of HT_.out (by kernel_rfl)) (fun _ _ _ h => h) (Or.inl ⟨by rfl, ?_⟩) ?_ ?_
                    rotate_left
                    · intro w'
                      go_simp
                      with_reducible rfl
                    rotate_left
                    · simp only [Act.put, List.setIfInBounds_toArray, List.set_cons_zero, List.set_cons_succ, i64_w, i32_w]
                      rfl
                    refine pure_ (i := 4) (N := some 64) (v := ?_) (a' := ?_) #[true, true, true, true, true, false, false, false, false, false, false, false, false, false, false, false, false, false, false, false, false, false, false, false, false, false, false, false, false, false, false, false, false, false, false, false, false, false, false, false, false, false, false, false, false, false, false, false, false, false, false, false, false, false] rfl rfl (any_of HT_.out (by kernel_rfl)) (fun _ _ _ h => h) (Or.inl ⟨by rfl, ?_⟩) ?_ ?_
                    rotate_left
                    · intro w'
                      go_simp
                      with_reducible rfl
                    rotate_left
                    · simp only [Act.put, List.setIfInBounds_toArray, List.set_cons_zero, List.set_cons_succ, i64_w, i32_w]
                      rfl
                    refine pure_ (i := 5) (N := some 65) (v := ?_) (a' := ?_) #[true, true, true, true, true, true, false, false, false, false, false, false, false, false, false, false, false, false, false, false, false, false, false, false, false, false, false, false, false, false, false, false, false, false, false, false, false, false, false, false, false, false, false, false, false, false, false, false, false, false, false, false, false, false] rfl rfl (any_of HT_.out (by kernel_rfl)) (fun _ _ _ h => h) (Or.inl ⟨by rfl, ?_⟩) ?_ ?_
                    rotate_left
                    · intro w'
                      go_simp
                      with_reducible rfl
                    rotate_left
                    · simp only [Act.put, List.setIfInBounds_toArray, List.set_cons_zero, List.set_cons_succ, i64_w, i32_w]
                      rfl
                    refine pure_ (i := 6) (N := some 66) (v := ?_) (a' := ?_) #[true, true, true, true, true, true, true, false, false, false, false, false, false, false, false, false, false, false, false, false, false, false, false, false, false, false, false, false, false, false, false, false, false, false, false, false, false, false, false, false, false, false, false, false, false, false, false, false, false, false, false, false, false, false] rfl rfl (any_of HT_.out (by kernel_rfl)) (fun _ _ _ h => h) (Or.inl ⟨by rfl, ?_⟩) ?_ ?_
                    rotate_left
                    · intro w'
                      go_simp
                      with_reducible rfl
                    rotate_left
                    · simp only [Act.put, List.setIfInBounds_toArray, List.set_cons_zero, List.set_cons_succ, i64_w, i32_w]
                      rfl
                    refine pure_ (i := 7) (N := some 67) (v := ?_) (a' := ?_) #[true, true, true, true, true, true, true, true, false, false, false, false, false, false, false, false, false, false, false, false, false, false, false, false, false, false, false, false, false, false, false, false, false, false, false, false, false, false, false, false, false, false, false, false, false, false, false, false, false, false, false, false, false, false] rfl rfl (any_of HT_.out (by kernel_rfl)) (fun _ _ _ h => h) (Or.inl ⟨by rfl, ?_⟩) ?_ ?_
                    rotate_left
                    · intro w'
                      go_simp
                      with_reducible rfl
                    rotate_left
                    · simp only [Act.put, List.setIfInBounds_toArray, List.set_cons_zero, List.set_cons_succ, i64_w, i32_w]
                      rfl
                    refine pure_ (i := 8) (N := some 68) (v := ?_) (a' := ?_) #[true, true, true, true, true, true, true, true, true, false, false, false, false, false, false, false, false, false, false, false, false, false, false, false, false, false, false, false, false, false, false, false, false, false, false, false, false, false, false, false, false, false, false, false, false, false, false, false, false, false, false, false, false, false] rfl rfl (any_of HT_.out (by kernel_rfl)) (fun _ _ _ h => h) (Or.inl ⟨by rfl, ?_⟩) ?_ ?_
                    rotate_left
                    · intro w'
                      go_simp
                      with_reducible rfl
                    rotate_left
                    · simp only [Act.put, List.setIfInBounds_toArray, List.set_cons_zero, List.set_cons_succ, i64_w, i32_w]
                      rfl
                    refine pure_ (i := 9) (N := some 69) (v := ?_) (a' := ?_) #[true, true, true, true, true, true, true, true, true, true, false, false, false, false, false, false, false, false, false, false, false, false, false, false, false, false, false, false, false, false, false, false, false, false, false, false, false, false, false, false, false, false, false, false, false, false, false, false, false, false, false, false, false, false] rfl rfl (any_of HT_.out (by kernel_rfl)) (fun _ _ _ h => h) (Or.inl ⟨by rfl, ?_⟩) ?_ ?_
                    rotate_left
                    · intro w'
                      go_simp
                      with_reducible rfl
                    rotate_left
                    · simp only [Act.put, List.setIfInBounds_toArray, List.set_cons_zero, List.set_cons_succ, i64_w, i32_w]
                      rfl
                    refine pure_ (i := 10) (N := some 70) (v := ?_) (a' := ?_) #[true, true, true, true, true, true, true, true, true, true, true, false, false, false, false, false, false, false, false, false, false, false, false, false, false, false, false, false, false, false, false, false, false, false, false, false, false, false, false, false, false, false, false, false, false, false, false, false, false, false, false, false, false, false] rfl rfl (any_of HT_.out (by kernel_rfl)) (fun _ _ _ h => h) (Or.inl ⟨by rfl, ?_⟩) ?_ ?_
                    rotate_left
                    · intro w'
                      go_simp
                      with_reducible rfl
                    rotate_left
                    · simp only [Act.put, List.setIfInBounds_toArray, List.set_cons_zero, List.set_cons_succ, i64_w, i32_w]
                      rfl
                    refine pure_ (i := 13) (N := some 73) (v := ?_) (a' := ?_) #[true, true, true, true, true, true, true, true, true, true, true, false, false, true, false, false, false, false, false, false, false, false, false, false, false, false, false, false, false, false, false, false, false, false, false, false, false, false, false, false, false, false, false, false, false, false, false, false, false, false, false, false, false, false] rfl rfl (any_of HT_.out (by kernel_rfl)) (fun _ _ _ h => h) (Or.inl ⟨by rfl, ?_⟩) ?_ ?_
                    rotate_left
                    · intro w'
                      go_simp
                      with_reducible rfl
                    rotate_left
                    · simp only [Act.put, List.setIfInBounds_toArray, List.set_cons_zero, List.set_cons_succ, i64_w, i32_w]
                      rfl
                    refine pure_ (i := 15) (N := some 75) (v := ?_) (a' := ?_) #[true, true, true, true, true, true, true, true, true, true, true, false, false, true, false, true, false, false, false, false, false, false, false, false, false, false, false, false, false, false, false, false, false, false, false, false, false, false, false, false, false, false, false, false, false, false, false, false, false, false, false, false, false, false] rfl rfl (any_of HT_.out (by kernel_rfl)) (fun _ _ _ h => h) (Or.inl ⟨by rfl, ?_⟩) ?_ ?_
                    rotate_left
                    · intro w'
                      go_simp
                      with_reducible rfl
                    rotate_left
                    · simp only [Act.put, List.setIfInBounds_toArray, List.set_cons_zero, List.set_cons_succ, i64_w, i32_w]
                      rfl
                    refine take_ (i := 11) (N := some 71) (v := ?_) (a' := ?_) #[true, true, true, true, true, true, true, true, true, true, true, true, false, true, false, true, false, false, false, false, false, false, false, false, false, false, false, false, false, false, false, false, false, false, false, false, false, false, false, false, false, false, false, false, false, false, false, false, false, false, false, false, false, false] rfl rfl (take_ofW HT_.out HW_.out (by kernel_rfl)) (fun _ _ _ h => h) (Or.inl ⟨by rfl, ?_⟩) hHeld ?_ ?_
                    rotate_left
                    · rintro w' ⟨s0, s1, s2, s3, s4, s5, s6, s7, s8⟩
                      go_simp
                      with_reducible rfl
                    rotate_left
                    · simp only [Act.put, List.setIfInBounds_toArray, List.set_cons_zero, List.set_cons_succ, i64_w, i32_w]
                      rfl
                    refine take_ (i := 12) (N := some 72) (v := ?_) (a' := ?_) #[true, true, true, true, true, true, true, true, true, true, true, true, true, true, false, true, false, false, false, false, false, false, false, false, false, false, false, false, false, false, false, false, false, false, false, false, false, false, false, false, false, false, false, false, false, false, false, false, false, false, false, false, false, false] rfl rfl (take_ofW HT_.out HW_.out (by kernel_rfl)) (fun _ _ _ h => h) (Or.inl ⟨by rfl, ?_⟩) hHeld ?_ ?_
                    rotate_left
                    · rintro w' ⟨s0, s1, s2, s3, s4, s5, s6, s7, s8⟩
                      go_simp
                      with_reducible rfl
                    rotate_left
                    · simp only [Act.put, List.setIfInBounds_toArray, List.set_cons_zero, List.set_cons_succ, i64_w, i32_w]
                      rfl
                    refine one_ (i := 14) (N := some 74) #[true, true, true, true, true, true, true, true, true, true, true, true, true, true, true, true, false, false, false, false, false, false, false, false, false, false, false, false, false, false, false, false, false, false, false, false, false, false, false, false, false, false, false, false, false, false, false, false, false, false, false, false, false, false] rfl rfl (one_of HT_.out (by kernel_rfl)) (by decide) (fun K hK => ?_)
                    refine goes_ Try.func20 (by kernel_rfl) rfl #[.agg #[.int .i64 (wrap64 (1900 + (Int.tmod (wrap64 (a0)) 1099))), .int .i64 (wrap64 (1 + (wrap64 (Int.tmod a1 12)))), .int .i64 1], .agg #[.int .i64 (wrap64 (1900 + (Int.tmod (wrap64 (a0)) 1099))), .int .i64 (wrap64 (1 + (wrap64 (Int.tmod a1 12)))), .int .i64 t229], .int .i64 t224] (by rfl) rfl rfl (by (try simp only [List.map_toArray, List.map_cons, List.map_nil]); first | done | rfl | (simp only [List.length_drop, List.length_take]; rfl)) ?_
                    with_reducible refine (dates_Days.calls k (wrap64 (1900 + (Int.tmod (wrap64 (a0)) 1099))) (wrap64 (1 + (wrap64 (Int.tmod a1 12)))) 1 (wrap64 (1900 + (Int.tmod (wrap64 (a0)) 1099))) (wrap64 (1 + (wrap64 (Int.tmod a1 12)))) t229 t224 t232 _ A10.out).mono ?_
                    rintro e w42 ⟨rfl, hb⟩
                    refine ⟨_, rfl, ?_⟩
                    have n0_ := Aside0.mk (blk_below (g := gb223) (o := .cells #[.int .i64 (wrap64 (1900 + (Int.tmod (wrap64 (a0)) 1099))), .int .i64 (wrap64 (1 + (wrap64 (Int.tmod a1 12)))), .int .i64 (wrap64 (1 + (wrap64 (Int.tmod a2 28))))] 23 (0, 0)) (by (with_reducible repeat (first | refine blk_drewN ?_ _ | refine blk_drew ?_ | refine blk_alloc ?_ _)); exact BK223.out) hb)
                    have n1_ := Aside0.mk (blk_below (g := gb226) (o := .cells #[.int .i64 (wrap64 ((wrap64 (1900 + (Int.tmod (wrap64 (a0)) 1099))) + 1)), .int .i64 (wrap64 (1 + (wrap64 (Int.tmod a1 12)))), .int .i64 (wrap64 (1 + (wrap64 (Int.tmod a2 28))))] 23 (0, 0)) (by (with_reducible repeat (first | refine blk_drewN ?_ _ | refine blk_drew ?_ | refine blk_alloc ?_ _)); exact BK226.out) hb)
                    have n2_ := Aside0.mk (blk_below (g := gb230) (o := .cells #[.int .i64 (wrap64 (1900 + (Int.tmod (wrap64 (a0)) 1099))), .int .i64 (wrap64 (1 + (wrap64 (Int.tmod a1 12)))), .int .i64 1] 23 (0, 0)) (by (with_reducible repeat (first | refine blk_drewN ?_ _ | refine blk_drew ?_ | refine blk_alloc ?_ _)); exact BK230.out) hb)
                    have n3_ := Aside0.mk (blk_below (g := gb231) (o := .cells #[.int .i64 (wrap64 (1900 + (Int.tmod (wrap64 (a0)) 1099))), .int .i64 (wrap64 (1 + (wrap64 (Int.tmod a1 12)))), .int .i64 t229] 23 (0, 0)) (by (with_reducible repeat (first | refine blk_drewN ?_ _ | refine blk_drew ?_ | refine blk_alloc ?_ _)); exact BK231.out) hb)
                    have n4_ := Aside0.mk (below_step (by repeat (first | (with_reducible first | exact HB.out | apply below_alloc | apply pw_below_drewN | apply below_drew1 | refine below_set ?_ GE223.out | refine below_set ?_ GE226.out | refine below_set ?_ GE230.out | refine below_set ?_ GE231.out) | exact HB.out)) hb)
                    clear BK223
                    clear BK226
                    clear BK230
                    clear BK231
                    clear HB
                    have BK223 := n0_
                    have BK226 := n1_
                    have BK230 := n2_
                    have BK231 := n3_
                    have HB := n4_
                    clear n0_ n1_ n2_ n3_ n4_
                    (try clear hb)
                    (try clear hb2)
                    (try clear hk)
                    (try clear hi)
                    refine hK.out _ _ ⟨(blk_cell BK230.out 0).trans rfl, (blk_cell BK230.out 1).trans rfl, (blk_cell BK230.out 2).trans rfl, (blk_cell BK231.out 0).trans rfl, (blk_cell BK231.out 1).trans rfl, (blk_cell BK231.out 2).trans rfl, (blk_cell BK223.out 0).trans rfl, (blk_cell BK223.out 1).trans rfl, (blk_cell BK223.out 2).trans rfl⟩ (fun hHeld => ?_)
                    clear hK K
                    refine norm_ (a' := ?_) ?_ ?_
                    rotate_left
                    · show Act.put _ (some 74) _ = _
                      simp only [Act.put, List.setIfInBounds_toArray, List.set_cons_zero, List.set_cons_succ, i64_w, i32_w]
                      rfl
                    refine pure_ (i := 16) (N := some 76) (v := ?_) (a' := ?_) #[true, true, true, true, true, true, true, true, true, true, true, true, true, true, true, true, true, false, false, false, false, false, false, false, false, false, false, false, false, false, false, false, false, false, false, false, false, false, false, false, false, false, false, false, false, false, false, false, false, false, false, false, false, false] rfl rfl (any_of HT_.out (by kernel_rfl)) (fun _ _ _ h => h) (Or.inl ⟨by rfl, ?_⟩) ?_ ?_
                    rotate_left
                    · intro w'
                      go_simp
                      with_reducible rfl
                    rotate_left
                    · simp only [Act.put, List.setIfInBounds_toArray, List.set_cons_zero, List.set_cons_succ, i64_w, i32_w]
                      rfl
                    refine pure_ (i := 17) (N := some 77) (v := ?_) (a' := ?_) #[true, true, true, true, true, true, true, true, true, true, true, true, true, true, true, true, true, true, false, false, false, false, false, false, false, false, false, false, false, false, false, false, false, false, false, false, false, false, false, false, false, false, false, false, false, false, false, false, false, false, false, false, false, false] rfl rfl (any_of HT_.out (by kernel_rfl)) (fun _ _ _ h => h) (Or.inl ⟨by rfl, ?_⟩) ?_ ?_
                    rotate_left
                    · intro w'
                      go_simp
                      with_reducible rfl
                    rotate_left
                    · simp only [Act.put, List.setIfInBounds_toArray, List.set_cons_zero, List.set_cons_succ, i64_w, i32_w]
                      rfl
                    refine pure_ (i := 18) (N := some 78) (v := ?_) (a' := ?_) #[true, true, true, true, true, true, true, true, true, true, true, true, true, true, true, true, true, true, true, false, false, false, false, false, false, false, false, false, false, false, false, false, false, false, false, false, false, false, false, false, false, false, false, false, false, false, false, false, false, false, false, false, false, false] rfl rfl (any_of HT_.out (by kernel_rfl)) (fun _ _ _ h => h) (Or.inl ⟨by rfl, ?_⟩) ?_ ?_
                    rotate_left
                    · intro w'
                      go_simp
                      with_reducible rfl
                    rotate_left
                    · simp only [Act.put, List.setIfInBounds_toArray, List.set_cons_zero, List.set_cons_succ, i64_w, i32_w]
                      rfl
                    refine pure_ (i := 21) (N := some 81) (v := ?_) (a' := ?_) #[true, true, true, true, true, true, true, true, true, true, true, true, true, true, true, true, true, true, true, false, false, true, false, false, false, false, false, false, false, false, false, false, false, false, false, false, false, false, false, false, false, false, false, false, false, false, false, false, false, false, false, false, false, false] rfl rfl (any_of HT_.out (by kernel_rfl)) (fun _ _ _ h => h) (Or.inl ⟨by rfl, ?_⟩) ?_ ?_
                    rotate_left
                    · intro w'
                      go_simp
                      with_reducible rfl
                    rotate_left
                    · simp only [Act.put, List.setIfInBounds_toArray, List.set_cons_zero, List.set_cons_succ, i64_w, i32_w]
                      rfl
                    refine pure_ (i := 22) (N := some 82) (v := ?_) (a' := ?_) #[true, true, true, true, true, true, true, true, true, true, true, true, true, true, true, true, true, true, true, false, false, true, true, false, false, false, false, false, false, false, false, false, false, false, false, false, false, false, false, false, false, false, false, false, false, false, false, false, false, false, false, false, false, false] rfl rfl (any_of HT_.out (by kernel_rfl)) (fun _ _ _ h => h) (Or.inl ⟨by rfl, ?_⟩) ?_ ?_
                    rotate_left
                    · intro w'
                      go_simp
                      with_reducible rfl
                    rotate_left
                    · simp only [Act.put, List.setIfInBounds_toArray, List.set_cons_zero, List.set_cons_succ, i64_w, i32_w]
                      rfl
                    refine take_ (i := 19) (N := some 79) (v := ?_) (a' := ?_) #[true, true, true, true, true, true, true, true, true, true, true, true, true, true, true, true, true, true, true, true, false, true, true, false, false, false, false, false, false, false, false, false, false, false, false, false, false, false, false, false, false, false, false, false, false, false, false, false, false, false, false, false, false, false] rfl rfl (take_ofW HT_.out HW_.out (by kernel_rfl)) (fun _ _ _ h => h) (Or.inl ⟨by rfl, ?_⟩) hHeld ?_ ?_
                    rotate_left
                    · rintro w' ⟨s0, s1, s2, s3, s4, s5, s6, s7, s8⟩
                      go_simp
                      with_reducible rfl
                    rotate_left
                    · simp only [Act.put, List.setIfInBounds_toArray, List.set_cons_zero, List.set_cons_succ, i64_w, i32_w]
                      rfl
                    refine take_ (i := 20) (N := some 80) (v := ?_) (a' := ?_) #[true, true, true, true, true, true, true, true, true, true, true, true, true, true, true, true, true, true, true, true, true, true, true, false, false, false, false, false, false, false, false, false, false, false, false, false, false, false, false, false, false, false, false, false, false, false, false, false, false, false, false, false, false, false] rfl rfl (take_ofW HT_.out HW_.out (by kernel_rfl)) (fun _ _ _ h => h) (Or.inl ⟨by rfl, ?_⟩) hHeld ?_ ?_
                    rotate_left
                    · rintro w' ⟨s0, s1, s2, s3, s4, s5, s6, s7, s8⟩
                      go_simp
                      with_reducible rfl
                    rotate_left
                    · simp only [Act.put, List.setIfInBounds_toArray, List.set_cons_zero, List.set_cons_succ, i64_w, i32_w]
                      rfl
                    refine one_ (i := 23) (N := some 83) #[true, true, true, true, true, true, true, true, true, true, true, true, true, true, true, true, true, true, true, true, true, true, true, true, false, false, false, false, false, false, false, false, false, false, false, false, false, false, false, false, false, false, false, false, false, false, false, false, false, false, false, false, false, false] rfl rfl (one_of HT_.out (by kernel_rfl)) (by decide) (fun K hK => ?_)
                    refine goes_ Try.func20 (by kernel_rfl) rfl #[.agg #[.int .i64 (wrap64 (1900 + (Int.tmod (wrap64 (a0)) 1099))), .int .i64 (wrap64 (1 + (wrap64 (Int.tmod a1 12)))), .int .i64 1], .agg #[.int .i64 (wrap64 (1900 + (Int.tmod (wrap64 (a0)) 1099))), .int .i64 (wrap64 (1 + (wrap64 (Int.tmod a1 12)))), .int .i64 t229], .int .i64 (wrap64 (t224 + 1))] (by rfl) rfl rfl (by (try simp only [List.map_toArray, List.map_cons, List.map_nil]); first | done | rfl | (simp only [List.length_drop, List.length_take]; rfl)) ?_
                    with_reducible refine (dates_Days.calls k (wrap64 (1900 + (Int.tmod (wrap64 (a0)) 1099))) (wrap64 (1 + (wrap64 (Int.tmod a1 12)))) 1 (wrap64 (1900 + (Int.tmod (wrap64 (a0)) 1099))) (wrap64 (1 + (wrap64 (Int.tmod a1 12)))) t229 (wrap64 (t224 + 1)) t233 _ A12.out).mono ?_
                    rintro e w43 ⟨rfl, hb⟩
                    refine ⟨_, rfl, ?_⟩
                    have n0_ := Aside0.mk (blk_below (g := gb223) (o := .cells #[.int .i64 (wrap64 (1900 + (Int.tmod (wrap64 (a0)) 1099))), .int .i64 (wrap64 (1 + (wrap64 (Int.tmod a1 12)))), .int .i64 (wrap64 (1 + (wrap64 (Int.tmod a2 28))))] 23 (0, 0)) (by (with_reducible repeat (first | refine blk_drewN ?_ _ | refine blk_drew ?_ | refine blk_alloc ?_ _)); exact BK223.out) hb)
                    have n1_ := Aside0.mk (blk_below (g := gb226) (o := .cells #[.int .i64 (wrap64 ((wrap64 (1900 + (Int.tmod (wrap64 (a0)) 1099))) + 1)), .int .i64 (wrap64 (1 + (wrap64 (Int.tmod a1 12)))), .int .i64 (wrap64 (1 + (wrap64 (Int.tmod a2 28))))] 23 (0, 0)) (by (with_reducible repeat (first | refine blk_drewN ?_ _ | refine blk_drew ?_ | refine blk_alloc ?_ _)); exact BK226.out) hb)
                    have n2_ := Aside0.mk (blk_below (g := gb230) (o := .cells #[.int .i64 (wrap64 (1900 + (Int.tmod (wrap64 (a0)) 1099))), .int .i64 (wrap64 (1 + (wrap64 (Int.tmod a1 12)))), .int .i64 1] 23 (0, 0)) (by (with_reducible repeat (first | refine blk_drewN ?_ _ | refine blk_drew ?_ | refine blk_alloc ?_ _)); exact BK230.out) hb)
                    have n3_ := Aside0.mk (blk_below (g := gb231) (o := .cells #[.int .i64 (wrap64 (1900 + (Int.tmod (wrap64 (a0)) 1099))), .int .i64 (wrap64 (1 + (wrap64 (Int.tmod a1 12)))), .int .i64 t229] 23 (0, 0)) (by (with_reducible repeat (first | refine blk_drewN ?_ _ | refine blk_drew ?_ | refine blk_alloc ?_ _)); exact BK231.out) hb)
                    have n4_ := Aside0.mk (below_step (by repeat (first | (with_reducible first | exact HB.out | apply below_alloc | apply pw_below_drewN | apply below_drew1 | refine below_set ?_ GE223.out | refine below_set ?_ GE226.out | refine below_set ?_ GE230.out | refine below_set ?_ GE231.out) | exact HB.out)) hb)
                    clear BK223
                    clear BK226
                    clear BK230
                    clear BK231
                    clear HB
                    have BK223 := n0_
                    have BK226 := n1_
                    have BK230 := n2_
                    have BK231 := n3_
                    have HB := n4_
                    clear n0_ n1_ n2_ n3_ n4_
                    (try clear hb)
                    (try clear hb2)
                    (try clear hk)
                    (try clear hi)
                    refine hK.out _ _ ⟨(blk_cell BK230.out 0).trans rfl, (blk_cell BK230.out 1).trans rfl, (blk_cell BK230.out 2).trans rfl, (blk_cell BK231.out 0).trans rfl, (blk_cell BK231.out 1).trans rfl, (blk_cell BK231.out 2).trans rfl, (blk_cell BK223.out 0).trans rfl, (blk_cell BK223.out 1).trans rfl, (blk_cell BK223.out 2).trans rfl⟩ (fun hHeld => ?_)
                    clear hK K
                    refine norm_ (a' := ?_) ?_ ?_
                    rotate_left
                    · show Act.put _ (some 83) _ = _
                      simp only [Act.put, List.setIfInBounds_toArray, List.set_cons_zero, List.set_cons_succ, i64_w, i32_w]
                      rfl
                    refine pure_ (i := 24) (N := some 84) (v := ?_) (a' := ?_) #[true, true, true, true, true, true, true, true, true, true, true, true, true, true, true, true, true, true, true, true, true, true, true, true, true, false, false, false, false, false, false, false, false, false, false, false, false, false, false, false, false, false, false, false, false, false, false, false, false, false, false, false, false, false] rfl rfl (any_of HT_.out (by kernel_rfl)) (fun _ _ _ h => h) (Or.inl ⟨by rfl, ?_⟩) ?_ ?_
                    rotate_left
                    · intro w'
                      go_simp
                      with_reducible rfl
                    rotate_left
                    · simp only [Act.put, List.setIfInBounds_toArray, List.set_cons_zero, List.set_cons_succ, i64_w, i32_w]
                      rfl
                    refine pure_ (i := 25) (N := some 85) (v := ?_) (a' := ?_) #[true, true, true, true, true, true, true, true, true, true, true, true, true, true, true, true, true, true, true, true, true, true, true, true, true, true, false, false, false, false, false, false, false, false, false, false, false, false, false, false, false, false, false, false, false, false, false, false, false, false, false, false, false, false] rfl rfl (any_of HT_.out (by kernel_rfl)) (fun _ _ _ h => h) (Or.inl ⟨by rfl, ?_⟩) ?_ ?_
                    rotate_left
                    · intro w'
                      go_simp
                      with_reducible rfl
                    rotate_left
                    · simp only [Act.put, List.setIfInBounds_toArray, List.set_cons_zero, List.set_cons_succ, i64_w, i32_w]
                      rfl
                    refine pure_ (i := 26) (N := some 86) (v := ?_) (a' := ?_) #[true, true, true, true, true, true, true, true, true, true, true, true, true, true, true, true, true, true, true, true, true, true, true, true, true, true, true, false, false, false, false, false, false, false, false, false, false, false, false, false, false, false, false, false, false, false, false, false, false, false, false, false, false, false] rfl rfl (any_of HT_.out (by kernel_rfl)) (fun _ _ _ h => h) (Or.inl ⟨by rfl, ?_⟩) ?_ ?_
                    rotate_left
                    · intro w'
                      go_simp
                      with_reducible rfl
                    rotate_left
                    · simp only [Act.put, List.setIfInBounds_toArray, List.set_cons_zero, List.set_cons_succ, i64_w, i32_w]
                      rfl
                    refine pure_ (i := 29) (N := some 89) (v := ?_) (a' := ?_) #[true, true, true, true, true, true, true, true, true, true, true, true, true, true, true, true, true, true, true, true, true, true, true, true, true, true, true, false, false, true, false, false, false, false, false, false, false, false, false, false, false, false, false, false, false, false, false, false, false, false, false, false, false, false] rfl rfl (any_of HT_.out (by kernel_rfl)) (fun _ _ _ h => h) (Or.inl ⟨by rfl, ?_⟩) ?_ ?_
                    rotate_left
                    · intro w'
                      go_simp
                      with_reducible rfl
                    rotate_left
                    · simp only [Act.put, List.setIfInBounds_toArray, List.set_cons_zero, List.set_cons_succ, i64_w, i32_w]
                      rfl
                    refine take_ (i := 27) (N := some 87) (v := ?_) (a' := ?_) #[true, true, true, true, true, true, true, true, true, true, true, true, true, true, true, true, true, true, true, true, true, true, true, true, true, true, true, true, false, true, false, false, false, false, false, false, false, false, false, false, false, false, false, false, false, false, false, false, false, false, false, false, false, false] rfl rfl (take_ofW HT_.out HW_.out (by kernel_rfl)) (fun _ _ _ h => h) (Or.inl ⟨by rfl, ?_⟩) hHeld ?_ ?_
                    rotate_left
                    · rintro w' ⟨s0, s1, s2, s3, s4, s5, s6, s7, s8⟩
                      go_simp
                      with_reducible rfl
                    rotate_left
                    · simp only [Act.put, List.setIfInBounds_toArray, List.set_cons_zero, List.set_cons_succ, i64_w, i32_w]
                      rfl
                    refine take_ (i := 28) (N := some 88) (v := ?_) (a' := ?_) #[true, true, true, true, true, true, true, true, true, true, true, true, true, true, true, true, true, true, true, true, true, true, true, true, true, true, true, true, true, true, false, false, false, false, false, false, false, false, false, false, false, false, false, false, false, false, false, false, false, false, false, false, false, false] rfl rfl (take_ofW HT_.out HW_.out (by kernel_rfl)) (fun _ _ _ h => h) (Or.inl ⟨by rfl, ?_⟩) hHeld ?_ ?_
                    rotate_left
                    · rintro w' ⟨s0, s1, s2, s3, s4, s5, s6, s7, s8⟩
                      go_simp
                      with_reducible rfl
                    rotate_left
                    · simp only [Act.put, List.setIfInBounds_toArray, List.set_cons_zero, List.set_cons_succ, i64_w, i32_w]
                      rfl
                    refine one_ (i := 30) (N := some 90) #[true, true, true, true, true, true, true, true, true, true, true, true, true, true, true, true, true, true, true, true, true, true, true, true, true, true, true, true, true, true, true, false, false, false, false, false, false, false, false, false, false, false, false, false, false, false, false, false, false, false, false, false, false, false] rfl rfl (one_of HT_.out (by kernel_rfl)) (by decide) (fun K hK => ?_)
                    refine goes_ Try.func20 (by kernel_rfl) rfl #[.agg #[.int .i64 (wrap64 (1900 + (Int.tmod (wrap64 (a0)) 1099))), .int .i64 (wrap64 (1 + (wrap64 (Int.tmod a1 12)))), .int .i64 (wrap64 (1 + (wrap64 (Int.tmod a2 28))))], .agg #[.int .i64 (wrap64 (1900 + (Int.tmod (wrap64 (a0)) 1099))), .int .i64 (wrap64 (1 + (wrap64 (Int.tmod a1 12)))), .int .i64 (wrap64 (1 + (wrap64 (Int.tmod a2 28))))], .int .i64 t224] (by rfl) rfl rfl (by (try simp only [List.map_toArray, List.map_cons, List.map_nil]); first | done | rfl | (simp only [List.length_drop, List.length_take]; rfl)) ?_
                    with_reducible refine (dates_Days.calls k (wrap64 (1900 + (Int.tmod (wrap64 (a0)) 1099))) (wrap64 (1 + (wrap64 (Int.tmod a1 12)))) (wrap64 (1 + (wrap64 (Int.tmod a2 28)))) (wrap64 (1900 + (Int.tmod (wrap64 (a0)) 1099))) (wrap64 (1 + (wrap64 (Int.tmod a1 12)))) (wrap64 (1 + (wrap64 (Int.tmod a2 28)))) t224 t234 _ A14.out).mono ?_
                    rintro e w44 ⟨rfl, hb⟩
                    refine ⟨_, rfl, ?_⟩
                    have n0_ := Aside0.mk (blk_below (g := gb223) (o := .cells #[.int .i64 (wrap64 (1900 + (Int.tmod (wrap64 (a0)) 1099))), .int .i64 (wrap64 (1 + (wrap64 (Int.tmod a1 12)))), .int .i64 (wrap64 (1 + (wrap64 (Int.tmod a2 28))))] 23 (0, 0)) (by (with_reducible repeat (first | refine blk_drewN ?_ _ | refine blk_drew ?_ | refine blk_alloc ?_ _)); exact BK223.out) hb)
                    have n1_ := Aside0.mk (blk_below (g := gb226) (o := .cells #[.int .i64 (wrap64 ((wrap64 (1900 + (Int.tmod (wrap64 (a0)) 1099))) + 1)), .int .i64 (wrap64 (1 + (wrap64 (Int.tmod a1 12)))), .int .i64 (wrap64 (1 + (wrap64 (Int.tmod a2 28))))] 23 (0, 0)) (by (with_reducible repeat (first | refine blk_drewN ?_ _ | refine blk_drew ?_ | refine blk_alloc ?_ _)); exact BK226.out) hb)
                    have n2_ := Aside0.mk (blk_below (g := gb230) (o := .cells #[.int .i64 (wrap64 (1900 + (Int.tmod (wrap64 (a0)) 1099))), .int .i64 (wrap64 (1 + (wrap64 (Int.tmod a1 12)))), .int .i64 1] 23 (0, 0)) (by (with_reducible repeat (first | refine blk_drewN ?_ _ | refine blk_drew ?_ | refine blk_alloc ?_ _)); exact BK230.out) hb)
                    have n3_ := Aside0.mk (blk_below (g := gb231) (o := .cells #[.int .i64 (wrap64 (1900 + (Int.tmod (wrap64 (a0)) 1099))), .int .i64 (wrap64 (1 + (wrap64 (Int.tmod a1 12)))), .int .i64 t229] 23 (0, 0)) (by (with_reducible repeat (first | refine blk_drewN ?_ _ | refine blk_drew ?_ | refine blk_alloc ?_ _)); exact BK231.out) hb)
                    have n4_ := Aside0.mk (below_step (by repeat (first | (with_reducible first | exact HB.out | apply below_alloc | apply pw_below_drewN | apply below_drew1 | refine below_set ?_ GE223.out | refine below_set ?_ GE226.out | refine below_set ?_ GE230.out | refine below_set ?_ GE231.out) | exact HB.out)) hb)
                    clear BK223
                    clear BK226
                    clear BK230
                    clear BK231
                    clear HB
                    have BK223 := n0_
                    have BK226 := n1_
                    have BK230 := n2_
                    have BK231 := n3_
                    have HB := n4_
                    clear n0_ n1_ n2_ n3_ n4_
                    (try clear hb)
                    (try clear hb2)
                    (try clear hk)
                    (try clear hi)
                    refine hK.out _ _ ⟨(blk_cell BK230.out 0).trans rfl, (blk_cell BK230.out 1).trans rfl, (blk_cell BK230.out 2).trans rfl, (blk_cell BK231.out 0).trans rfl, (blk_cell BK231.out 1).trans rfl, (blk_cell BK231.out 2).trans rfl, (blk_cell BK223.out 0).trans rfl, (blk_cell BK223.out 1).trans rfl, (blk_cell BK223.out 2).trans rfl⟩ (fun hHeld => ?_)
                    clear hK K
                    refine norm_ (a' := ?_) ?_ ?_
                    rotate_left
                    · show Act.put _ (some 90) _ = _
                      simp only [Act.put, List.setIfInBounds_toArray, List.set_cons_zero, List.set_cons_succ, i64_w, i32_w]
                      rfl
                    refine pure_ (i := 31) (N := some 91) (v := ?_) (a' := ?_) #[true, true, true, true, true, true, true, true, true, true, true, true, true, true, true, true, true, true, true, true, true, true, true, true, true, true, true, true, true, true, true, true, false, false, false, false, false, false, false, false, false, false, false, false, false, false, false, false, false, false, false, false, false, false] rfl rfl (any_of HT_.out (by kernel_rfl)) (fun _ _ _ h => h) (Or.inl ⟨by rfl, ?_⟩) ?_ ?_
                    rotate_left
                    · intro w'
                      go_simp
                      with_reducible rfl
                    rotate_left
                    · simp only [Act.put, List.setIfInBounds_toArray, List.set_cons_zero, List.set_cons_succ, i64_w, i32_w]
                      rfl
                    refine pure_ (i := 32) (N := some 92) (v := ?_) (a' := ?_) #[true, true, true, true, true, true, true, true, true, true, true, true, true, true, true, true, true, true, true, true, true, true, true, true, true, true, true, true, true, true, true, true, true, false, false, false, false, false, false, false, false, false, false, false, false, false, false, false, false, false, false, false, false, false] rfl rfl (any_of HT_.out (by kernel_rfl)) (fun _ _ _ h => h) (Or.inl ⟨by rfl, ?_⟩) ?_ ?_
                    rotate_left
                    · intro w'
                      go_simp
                      with_reducible rfl
                    rotate_left
                    · simp only [Act.put, List.setIfInBounds_toArray, List.set_cons_zero, List.set_cons_succ, i64_w, i32_w]
                      rfl
                    refine pure_ (i := 33) (N := some 93) (v := ?_) (a' := ?_) #[true, true, true, true, true, true, true, true, true, true, true, true, true, true, true, true, true, true, true, true, true, true, true, true, true, true, true, true, true, true, true, true, true, true, false, false, false, false, false, false, false, false, false, false, false, false, false, false, false, false, false, false, false, false] rfl rfl (any_of HT_.out (by kernel_rfl)) (fun _ _ _ h => h) (Or.inl ⟨by rfl, ?_⟩) ?_ ?_
                    rotate_left
                    · intro w'
                      go_simp
                      with_reducible rfl
                    rotate_left
                    · simp only [Act.put, List.setIfInBounds_toArray, List.set_cons_zero, List.set_cons_succ, i64_w, i32_w]
                      rfl
                    refine pure_ (i := 36) (N := some 96) (v := ?_) (a' := ?_) #[true, true, true, true, true, true, true, true, true, true, true, true, true, true, true, true, true, true, true, true, true, true, true, true, true, true, true, true, true, true, true, true, true, true, false, false, true, false, false, false, false, false, false, false, false, false, false, false, false, false, false, false, false, false] rfl rfl (any_of HT_.out (by kernel_rfl)) (fun _ _ _ h => h) (Or.inl ⟨by rfl, ?_⟩) ?_ ?_
                    rotate_left
                    · intro w'
                      go_simp
                      with_reducible rfl
                    rotate_left
                    · simp only [Act.put, List.setIfInBounds_toArray, List.set_cons_zero, List.set_cons_succ, i64_w, i32_w]
                      rfl
                    refine pure_ (i := 38) (N := some 98) (v := ?_) (a' := ?_) #[true, true, true, true, true, true, true, true, true, true, true, true, true, true, true, true, true, true, true, true, true, true, true, true, true, true, true, true, true, true, true, true, true, true, false, false, true, false, true, false, false, false, false, false, false, false, false, false, false, false, false, false, false, false] rfl rfl (any_of HT_.out (by kernel_rfl)) (fun _ _ _ h => h) (Or.inl ⟨by rfl, ?_⟩) ?_ ?_
                    rotate_left
                    · intro w'
                      go_simp
                      with_reducible rfl
                    rotate_left
                    · simp only [Act.put, List.setIfInBounds_toArray, List.set_cons_zero, List.set_cons_succ, i64_w, i32_w]
                      rfl
                    refine take_ (i := 34) (N := some 94) (v := ?_) (a' := ?_) #[true, true, true, true, true, true, true, true, true, true, true, true, true, true, true, true, true, true, true, true, true, true, true, true, true, true, true, true, true, true, true, true, true, true, true, false, true, false, true, false, false, false, false, false, false, false, false, false, false, false, false, false, false, false] rfl rfl (take_ofW HT_.out HW_.out (by kernel_rfl)) (fun _ _ _ h => h) (Or.inl ⟨by rfl, ?_⟩) hHeld ?_ ?_
                    rotate_left
                    · rintro w' ⟨s0, s1, s2, s3, s4, s5, s6, s7, s8⟩
                      go_simp
                      with_reducible rfl
                    rotate_left
                    · simp only [Act.put, List.setIfInBounds_toArray, List.set_cons_zero, List.set_cons_succ, i64_w, i32_w]
                      rfl
                    refine take_ (i := 35) (N := some 95) (v := ?_) (a' := ?_) #[true, true, true, true, true, true, true, true, true, true, true, true, true, true, true, true, true, true, true, true, true, true, true, true, true, true, true, true, true, true, true, true, true, true, true, true, true, false, true, false, false, false, false, false, false, false, false, false, false, false, false, false, false, false] rfl rfl (take_ofW HT_.out HW_.out (by kernel_rfl)) (fun _ _ _ h => h) (Or.inl ⟨by rfl, ?_⟩) hHeld ?_ ?_
                    rotate_left
                    · rintro w' ⟨s0, s1, s2, s3, s4, s5, s6, s7, s8⟩
                      go_simp
                      with_reducible rfl
                    rotate_left
                    · simp only [Act.put, List.setIfInBounds_toArray, List.set_cons_zero, List.set_cons_succ, i64_w, i32_w]
                      rfl
                    refine take_ (i := 39) (N := some 99) (v := ?_) (a' := ?_) #[true, true, true, true, true, true, true, true, true, true, true, true, true, true, true, true, true, true, true, true, true, true, true, true, true, true, true, true, true, true, true, true, true, true, true, true, true, false, true, true, false, false, false, false, false, false, false, false, false, false, false, false, false, false] rfl rfl (take_ofW HT_.out HW_.out (by kernel_rfl)) (fun _ _ _ h => h) (Or.inl ⟨by rfl, ?_⟩) hHeld ?_ ?_
                    rotate_left
                    · rintro w' ⟨s0, s1, s2, s3, s4, s5, s6, s7, s8⟩
                      go_simp
                      with_reducible rfl
                    rotate_left
                    · simp only [Act.put, List.setIfInBounds_toArray, List.set_cons_zero, List.set_cons_succ, i64_w, i32_w]
                      rfl
                    refine one_ (i := 37) (N := some 97) #[true, true, true, true, true, true, true, true, true, true, true, true, true, true, true, true, true, true, true, true, true, true, true, true, true, true, true, true, true, true, true, true, true, true, true, true, true, true, true, true, false, false, false, false, false, false, false, false, false, false, false, false, false, false] rfl rfl (one_of HT_.out (by kernel_rfl)) (by decide) (fun K hK => ?_)
                    refine goes_ Try.func20 (by kernel_rfl) rfl #[.agg #[.int .i64 (wrap64 (1900 + (Int.tmod (wrap64 (a0)) 1099))), .int .i64 (wrap64 (1 + (wrap64 (Int.tmod a1 12)))), .int .i64 1], .agg #[.int .i64 (wrap64 (1900 + (Int.tmod (wrap64 (a0)) 1099))), .int .i64 (wrap64 (1 + (wrap64 (Int.tmod a1 12)))), .int .i64 (wrap64 (1 + (wrap64 (Int.tmod a2 28))))], .int .i64 t224] (by rfl) rfl rfl (by (try simp only [List.map_toArray, List.map_cons, List.map_nil]); first | done | rfl | (simp only [List.length_drop, List.length_take]; rfl)) ?_
                    with_reducible refine (dates_Days.calls k (wrap64 (1900 + (Int.tmod (wrap64 (a0)) 1099))) (wrap64 (1 + (wrap64 (Int.tmod a1 12)))) 1 (wrap64 (1900 + (Int.tmod (wrap64 (a0)) 1099))) (wrap64 (1 + (wrap64 (Int.tmod a1 12)))) (wrap64 (1 + (wrap64 (Int.tmod a2 28)))) t224 t235 _ A16.out).mono ?_
                    rintro e w45 ⟨rfl, hb⟩
                    refine ⟨_, rfl, ?_⟩
                    have n0_ := Aside0.mk (blk_below (g := gb223) (o := .cells #[.int .i64 (wrap64 (1900 + (Int.tmod (wrap64 (a0)) 1099))), .int .i64 (wrap64 (1 + (wrap64 (Int.tmod a1 12)))), .int .i64 (wrap64 (1 + (wrap64 (Int.tmod a2 28))))] 23 (0, 0)) (by (with_reducible repeat (first | refine blk_drewN ?_ _ | refine blk_drew ?_ | refine blk_alloc ?_ _)); exact BK223.out) hb)
                    have n1_ := Aside0.mk (blk_below (g := gb226) (o := .cells #[.int .i64 (wrap64 ((wrap64 (1900 + (Int.tmod (wrap64 (a0)) 1099))) + 1)), .int .i64 (wrap64 (1 + (wrap64 (Int.tmod a1 12)))), .int .i64 (wrap64 (1 + (wrap64 (Int.tmod a2 28))))] 23 (0, 0)) (by (with_reducible repeat (first | refine blk_drewN ?_ _ | refine blk_drew ?_ | refine blk_alloc ?_ _)); exact BK226.out) hb)
                    have n2_ := Aside0.mk (blk_below (g := gb230) (o := .cells #[.int .i64 (wrap64 (1900 + (Int.tmod (wrap64 (a0)) 1099))), .int .i64 (wrap64 (1 + (wrap64 (Int.tmod a1 12)))), .int .i64 1] 23 (0, 0)) (by (with_reducible repeat (first | refine blk_drewN ?_ _ | refine blk_drew ?_ | refine blk_alloc ?_ _)); exact BK230.out) hb)
                    have n3_ := Aside0.mk (blk_below (g := gb231) (o := .cells #[.int .i64 (wrap64 (1900 + (Int.tmod (wrap64 (a0)) 1099))), .int .i64 (wrap64 (1 + (wrap64 (Int.tmod a1 12)))), .int .i64 t229] 23 (0, 0)) (by (with_reducible repeat (first | refine blk_drewN ?_ _ | refine blk_drew ?_ | refine blk_alloc ?_ _)); exact BK231.out) hb)
                    have n4_ := Aside0.mk (below_step (by repeat (first | (with_reducible first | exact HB.out | apply below_alloc | apply pw_below_drewN | apply below_drew1 | refine below_set ?_ GE223.out | refine below_set ?_ GE226.out | refine below_set ?_ GE230.out | refine below_set ?_ GE231.out) | exact HB.out)) hb)
                    clear BK223
                    clear BK226
                    clear BK230
                    clear BK231
                    clear HB
                    have BK223 := n0_
                    have BK226 := n1_
                    have BK230 := n2_
                    have BK231 := n3_
                    have HB := n4_
                    clear n0_ n1_ n2_ n3_ n4_
                    (try clear hb)
                    (try clear hb2)
                    (try clear hk)
                    (try clear hi)
                    refine hK.out _ _ ⟨(blk_cell BK230.out 0).trans rfl, (blk_cell BK230.out 1).trans rfl, (blk_cell BK230.out 2).trans rfl, (blk_cell BK231.out 0).trans rfl, (blk_cell BK231.out 1).trans rfl, (blk_cell BK231.out 2).trans rfl, (blk_cell BK223.out 0).trans rfl, (blk_cell BK223.out 1).trans rfl, (blk_cell BK223.out 2).trans rfl⟩ (fun hHeld => ?_)
                    clear hK K
                    refine norm_ (a' := ?_) ?_ ?_
                    rotate_left
                    · show Act.put _ (some 97) _ = _
                      simp only [Act.put, List.setIfInBounds_toArray, List.set_cons_zero, List.set_cons_succ, i64_w, i32_w]
                      rfl
                    refine pure_ (i := 40) (N := some 100) (v := ?_) (a' := ?_) #[true, true, true, true, true, true, true, true, true, true, true, true, true, true, true, true, true, true, true, true, true, true, true, true, true, true, true, true, true, true, true, true, true, true, true, true, true, true, true, true, true, false, false, false, false, false, false, false, false, false, false, false, false, false] rfl rfl (any_of HT_.out (by kernel_rfl)) (fun _ _ _ h => h) (Or.inl ⟨by rfl, ?_⟩) ?_ ?_
                    rotate_left
                    · intro w'
                      go_simp
                      with_reducible rfl
                    rotate_left
                    · simp only [Act.put, List.setIfInBounds_toArray, List.set_cons_zero, List.set_cons_succ, i64_w, i32_w]
                      rfl
                    refine pure_ (i := 41) (N := some 101) (v := ?_) (a' := ?_) #[true, true, true, true, true, true, true, true, true, true, true, true, true, true, true, true, true, true, true, true, true, true, true, true, true, true, true, true, true, true, true, true, true, true, true, true, true, true, true, true, true, true, false, false, false, false, false, false, false, false, false, false, false, false] rfl rfl (any_of HT_.out (by kernel_rfl)) (fun _ _ _ h => h) (Or.inl ⟨by rfl, ?_⟩) ?_ ?_
                    rotate_left
                    · intro w'
                      go_simp
                      with_reducible rfl
                    rotate_left
                    · simp only [Act.put, List.setIfInBounds_toArray, List.set_cons_zero, List.set_cons_succ, i64_w, i32_w]
                      rfl
                    refine pure_ (i := 42) (N := some 102) (v := ?_) (a' := ?_) #[true, true, true, true, true, true, true, true, true, true, true, true, true, true, true, true, true, true, true, true, true, true, true, true, true, true, true, true, true, true, true, true, true, true, true, true, true, true, true, true, true, true, true, false, false, false, false, false, false, false, false, false, false, false] rfl rfl (any_of HT_.out (by kernel_rfl)) (fun _ _ _ h => h) (Or.inl ⟨by rfl, ?_⟩) ?_ ?_
                    rotate_left
                    · intro w'
                      go_simp
                      with_reducible rfl
                    rotate_left
                    · simp only [Act.put, List.setIfInBounds_toArray, List.set_cons_zero, List.set_cons_succ, i64_w, i32_w]
                      rfl
                    refine pure_ (i := 43) (N := some 103) (v := ?_) (a' := ?_) #[true, true, true, true, true, true, true, true, true, true, true, true, true, true, true, true, true, true, true, true, true, true, true, true, true, true, true, true, true, true, true, true, true, true, true, true, true, true, true, true, true, true, true, true, false, false, false, false, false, false, false, false, false, false] rfl rfl (any_of HT_.out (by kernel_rfl)) (fun _ _ _ h => h) (Or.inl ⟨by rfl, ?_⟩) ?_ ?_
                    rotate_left
                    · intro w'
                      go_simp
                      with_reducible rfl
                    rotate_left
                    · simp only [Act.put, List.setIfInBounds_toArray, List.set_cons_zero, List.set_cons_succ, i64_w, i32_w]
                      rfl
                    refine pure_ (i := 44) (N := some 104) (v := ?_) (a' := ?_) #[true, true, true, true, true, true, true, true, true, true, true, true, true, true, true, true, true, true, true, true, true, true, true, true, true, true, true, true, true, true, true, true, true, true, true, true, true, true, true, true, true, true, true, true, true, false, false, false, false, false, false, false, false, false] rfl rfl (any_of HT_.out (by kernel_rfl)) (fun _ _ _ h => h) (Or.inl ⟨by rfl, ?_⟩) ?_ ?_
                    rotate_left
                    · intro w'
                      go_simp
                      with_reducible rfl
                    rotate_left
                    · simp only [Act.put, List.setIfInBounds_toArray, List.set_cons_zero, List.set_cons_succ, i64_w, i32_w]
                      rfl
                    refine pure_ (i := 45) (N := some 105) (v := ?_) (a' := ?_) #[true, true, true, true, true, true, true, true, true, true, true, true, true, true, true, true, true, true, true, true, true, true, true, true, true, true, true, true, true, true, true, true, true, true, true, true, true, true, true, true, true, true, true, true, true, true, false, false, false, false, false, false, false, false] rfl rfl (any_of HT_.out (by kernel_rfl)) (fun _ _ _ h => h) (Or.inl ⟨by rfl, ?_⟩) ?_ ?_
                    rotate_left
                    · intro w'
                      go_simp
                      with_reducible rfl
                    rotate_left
                    · simp only [Act.put, List.setIfInBounds_toArray, List.set_cons_zero, List.set_cons_succ, i64_w, i32_w]
                      rfl
                    refine pure_ (i := 46) (N := some 106) (v := ?_) (a' := ?_) #[true, true, true, true, true, true, true, true, true, true, true, true, true, true, true, true, true, true, true, true, true, true, true, true, true, true, true, true, true, true, true, true, true, true, true, true, true, true, true, true, true, true, true, true, true, true, true, false, false, false, false, false, false, false] rfl rfl (any_of HT_.out (by kernel_rfl)) (fun _ _ _ h => h) (Or.inl ⟨by rfl, ?_⟩) ?_ ?_
                    rotate_left
                    · intro w'
                      go_simp
                      with_reducible rfl
                    rotate_left
                    · simp only [Act.put, List.setIfInBounds_toArray, List.set_cons_zero, List.set_cons_succ, i64_w, i32_w]
                      rfl
                    refine pure_ (i := 47) (N := some 107) (v := ?_) (a' := ?_) #[true, true, true, true, true, true, true, true, true, true, true, true, true, true, true, true, true, true, true, true, true, true, true, true, true, true, true, true, true, true, true, true, true, true, true, true, true, true, true, true, true, true, true, true, true, true, true, true, false, false, false, false, false, false] rfl rfl (any_of HT_.out (by kernel_rfl)) (fun _ _ _ h => h) (Or.inl ⟨by rfl, ?_⟩) ?_ ?_
                    rotate_left
                    · intro w'
                      go_simp
                      with_reducible rfl
                    rotate_left
                    · simp only [Act.put, List.setIfInBounds_toArray, List.set_cons_zero, List.set_cons_succ, i64_w, i32_w]
                      rfl
                    refine pure_ (i := 48) (N := some 108) (v := ?_) (a' := ?_) #[true, true, true, true, true, true, true, true, true, true, true, true, true, true, true, true, true, true, true, true, true, true, true, true, true, true, true, true, true, true, true, true, true, true, true, true, true, true, true, true, true, true, true, true, true, true, true, true, true, false, false, false, false, false] rfl rfl (any_of HT_.out (by kernel_rfl)) (fun _ _ _ h => h) (Or.inl ⟨by rfl, ?_⟩) ?_ ?_
                    rotate_left
                    · intro w'
                      go_simp
                      with_reducible rfl
                    rotate_left
                    · simp only [Act.put, List.setIfInBounds_toArray, List.set_cons_zero, List.set_cons_succ, i64_w, i32_w]
                      rfl
                    refine pure_ (i := 49) (N := some 109) (v := ?_) (a' := ?_) #[true, true, true, true, true, true, true, true, true, true, true, true, true, true, true, true, true, true, true, true, true, true, true, true, true, true, true, true, true, true, true, true, true, true, true, true, true, true, true, true, true, true, true, true, true, true, true, true, true, true, false, false, false, false] rfl rfl (any_of HT_.out (by kernel_rfl)) (fun _ _ _ h => h) (Or.inl ⟨by rfl, ?_⟩) ?_ ?_
                    rotate_left
                    · intro w'
                      go_simp
                      with_reducible rfl
                    rotate_left
                    · simp only [Act.put, List.setIfInBounds_toArray, List.set_cons_zero, List.set_cons_succ, i64_w, i32_w]
                      rfl
                    refine pure_ (i := 50) (N := some 110) (v := ?_) (a' := ?_) #[true, true, true, true, true, true, true, true, true, true, true, true, true, true, true, true, true, true, true, true, true, true, true, true, true, true, true, true, true, true, true, true, true, true, true, true, true, true, true, true, true, true, true, true, true, true, true, true, true, true, true, false, false, false] rfl rfl (any_of HT_.out (by kernel_rfl)) (fun _ _ _ h => h) (Or.inl ⟨by rfl, ?_⟩) ?_ ?_
                    rotate_left
                    · intro w'
                      go_simp
                      with_reducible rfl
                    rotate_left
                    · simp only [Act.put, List.setIfInBounds_toArray, List.set_cons_zero, List.set_cons_succ, i64_w, i32_w]
                      rfl
                    refine one_ (i := 51) (N := some 111) #[true, true, true, true, true, true, true, true, true, true, true, true, true, true, true, true, true, true, true, true, true, true, true, true, true, true, true, true, true, true, true, true, true, true, true, true, true, true, true, true, true, true, true, true, true, true, true, true, true, true, true, true, false, false] rfl rfl (one_of HT_.out (by kernel_rfl)) (by decide) (fun K hK => ?_)
                    refine goes_ Try.func12 (by kernel_rfl) rfl #[] (by rfl) rfl rfl (by (try simp only [List.map_toArray, List.map_cons, List.map_nil]); first | done | rfl | (simp only [List.length_drop, List.length_take]; rfl)) ?_
                    with_reducible refine (paymasterlaw06_awake.calls k  t236 _ A20.out).mono ?_
                    rintro e w46 ⟨rfl, hb⟩
                    refine ⟨_, rfl, ?_⟩
                    have n0_ := Aside0.mk (blk_below (g := gb223) (o := .cells #[.int .i64 (wrap64 (1900 + (Int.tmod (wrap64 (a0)) 1099))), .int .i64 (wrap64 (1 + (wrap64 (Int.tmod a1 12)))), .int .i64 (wrap64 (1 + (wrap64 (Int.tmod a2 28))))] 23 (0, 0)) (by (with_reducible repeat (first | refine blk_drewN ?_ _ | refine blk_drew ?_ | refine blk_alloc ?_ _)); exact BK223.out) hb)
                    have n1_ := Aside0.mk (blk_below (g := gb226) (o := .cells #[.int .i64 (wrap64 ((wrap64 (1900 + (Int.tmod (wrap64 (a0)) 1099))) + 1)), .int .i64 (wrap64 (1 + (wrap64 (Int.tmod a1 12)))), .int .i64 (wrap64 (1 + (wrap64 (Int.tmod a2 28))))] 23 (0, 0)) (by (with_reducible repeat (first | refine blk_drewN ?_ _ | refine blk_drew ?_ | refine blk_alloc ?_ _)); exact BK226.out) hb)
                    have n2_ := Aside0.mk (blk_below (g := gb230) (o := .cells #[.int .i64 (wrap64 (1900 + (Int.tmod (wrap64 (a0)) 1099))), .int .i64 (wrap64 (1 + (wrap64 (Int.tmod a1 12)))), .int .i64 1] 23 (0, 0)) (by (with_reducible repeat (first | refine blk_drewN ?_ _ | refine blk_drew ?_ | refine blk_alloc ?_ _)); exact BK230.out) hb)
                    have n3_ := Aside0.mk (blk_below (g := gb231) (o := .cells #[.int .i64 (wrap64 (1900 + (Int.tmod (wrap64 (a0)) 1099))), .int .i64 (wrap64 (1 + (wrap64 (Int.tmod a1 12)))), .int .i64 t229] 23 (0, 0)) (by (with_reducible repeat (first | refine blk_drewN ?_ _ | refine blk_drew ?_ | refine blk_alloc ?_ _)); exact BK231.out) hb)
                    have n4_ := Aside0.mk (below_step (by repeat (first | (with_reducible first | exact HB.out | apply below_alloc | apply pw_below_drewN | apply below_drew1 | refine below_set ?_ GE223.out | refine below_set ?_ GE226.out | refine below_set ?_ GE230.out | refine below_set ?_ GE231.out) | exact HB.out)) hb)
                    clear BK223
                    clear BK226
                    clear BK230
                    clear BK231
                    clear HB
                    have BK223 := n0_
                    have BK226 := n1_
                    have BK230 := n2_
                    have BK231 := n3_
                    have HB := n4_
                    clear n0_ n1_ n2_ n3_ n4_
                    (try clear hb)
                    (try clear hb2)
                    (try clear hk)
                    (try clear hi)
                    refine hK.out _ _ ⟨(blk_cell BK230.out 0).trans rfl, (blk_cell BK230.out 1).trans rfl, (blk_cell BK230.out 2).trans rfl, (blk_cell BK231.out 0).trans rfl, (blk_cell BK231.out 1).trans rfl, (blk_cell BK231.out 2).trans rfl, (blk_cell BK223.out 0).trans rfl, (blk_cell BK223.out 1).trans rfl, (blk_cell BK223.out 2).trans rfl⟩ (fun hHeld => ?_)
                    clear hK K
                    refine norm_ (a' := ?_) ?_ ?_
                    rotate_left
                    · show Act.put _ (some 111) _ = _
                      simp only [Act.put, List.setIfInBounds_toArray, List.set_cons_zero, List.set_cons_succ, i64_w, i32_w]
                      rfl
                    refine pure_ (i := 52) (N := some 112) (v := ?_) (a' := ?_) #[true, true, true, true, true, true, true, true, true, true, true, true, true, true, true, true, true, true, true, true, true, true, true, true, true, true, true, true, true, true, true, true, true, true, true, true, true, true, true, true, true, true, true, true, true, true, true, true, true, true, true, true, true, false] rfl rfl (any_of HT_.out (by kernel_rfl)) (fun _ _ _ h => h) (Or.inl ⟨by rfl, ?_⟩) ?_ ?_
                    rotate_left
                    · intro w'
                      go_simp
                      with_reducible rfl
                    rotate_left
                    · simp only [Act.put, List.setIfInBounds_toArray, List.set_cons_zero, List.set_cons_succ, i64_w, i32_w]
                      rfl
                    refine pure_ (i := 53) (N := some 6) (v := ?_) (a' := ?_) #[true, true, true, true, true, true, true, true, true, true, true, true, true, true, true, true, true, true, true, true, true, true, true, true, true, true, true, true, true, true, true, true, true, true, true, true, true, true, true, true, true, true, true, true, true, true, true, true, true, true, true, true, true, true] rfl rfl (any_of HT_.out (by kernel_rfl)) (fun _ _ _ h => h) (Or.inl ⟨by rfl, ?_⟩) ?_ ?_
                    rotate_left
                    · intro w'
                      go_simp
                      with_reducible rfl
                    rotate_left
                    · simp only [Act.put, List.setIfInBounds_toArray, List.set_cons_zero, List.set_cons_succ, i64_w, i32_w]
                      rfl
                    refine done_ (done_of HT_.out (by kernel_rfl)) ?_
                    try go_wp2
                    go_ret
                    exact ⟨by first | rfl | (simp [errW_none, errW_some] <;> rfl) | (simp [*, errW_none, errW_some] <;> rfl), by repeat (first | (with_reducible first | exact HB.out | apply below_alloc | apply pw_below_drewN | apply below_drew1 | refine below_set ?_ GE223.out | refine below_set ?_ GE226.out | refine below_set ?_ GE230.out | refine below_set ?_ GE231.out) | exact HB.out)⟩
                  · rw [if_neg c19] at H
                    exact absurd H (by simp)
                · rw [if_neg c18] at H
                  exact absurd H (by simp)
              · rw [if_neg c17] at H
                exact absurd H (by simp)
            · rw [if_neg c15] at H
              exact absurd H (by simp)
          · rw [if_neg c13] at H
            exact absurd H (by simp)
        · rw [if_neg c11] at H
          exact absurd H (by simp)
      · rw [if_neg c9] at H
        exact absurd H (by simp)
    · replace c8 := Bool.eq_false_iff.mpr c8
      subst c8
      have H1 : (none) = some r := by rw [if_neg (show ¬ (false = true) by decide)] at H; exact H
      clear H
      have H := H1
      clear H1
      exact absurd H (by simp)
  · replace c7 := Bool.eq_false_iff.mpr c7
    subst c7
    have H1 : (none) = some r := by rw [if_neg (show ¬ (false = true) by decide)] at H; exact H
    clear H
    have H := H1
    clear H1
    exact absurd H (by simp)

/-- THE ONE PURE STATEMENT of paymasterlaw06_DatesPeriods: yours. -/
def paymasterlaw06_DatesPeriods.Pure : Prop := ∀ (a0 : Int) (a1 : Int) (a2 : Int), (Lit.int .u16 a0).wf = true → (Lit.int .u8 a1).wf = true → (Lit.int .u8 a2).wf = true → ∃ k, paymasterlaw06_DatesPeriods.f k a0 a1 a2 = some true
theorem paymasterlaw06_DatesPeriods.walk (P : paymasterlaw06_DatesPeriods.Pure) (a0 : Int) (a1 : Int) (a2 : Int) (w : World) (w0 : (Lit.int .u16 a0).wf = true) (w1 : (Lit.int .u8 a1).wf = true) (w2 : (Lit.int .u8 a2).wf = true) :
    Calls Try.prog 9 #[.int .u16 a0, .int .u8 a1, .int .u8 a2] w fun e w' => e = .returned (.bool true) ∧ Below w.heap.size w w' := by
  obtain ⟨k, h⟩ := P a0 a1 a2 w0 w1 w2
  refine (paymasterlaw06_DatesPeriods.calls k a0 a1 a2 true w h).mono ?_
  rintro e w' ⟨rfl, hd⟩
  exact ⟨rfl, hd⟩

end Go.Proofs.Ytkfhclichfjhmaa.PA
