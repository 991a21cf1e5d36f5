/- Months that came in, as a list of pairs of numbers. -/
import Derived.Test.YtocaneaofdbpoaaWs
import Derived.OpenShut
set_option linter.unusedVariables false
namespace Go.Proofs.Ytocaneaofdbpoaa.Wd
open Go.RowKit Go.Proofs.Ytocaneaofdbpoaa.PA Go.Proofs.YtocaneaofdbpoaaW.PrintWords Go.Proofs.YtocaneaofdbpoaaW.PrintMore
section
open Go.ChangeShapes Go.WideShapes Go.Deep Go.Joins
/-- A slice of months that came in (arrays of two numbers), as a list of pairs. -/
theorem months_of {H : Type} {enc : TypeId × Value → H} {W : World} {base : Nat} {spare : Nat → Bool} {held : Bool} {t : TypeId} {a : Option Addr} {len cap : Nat} {d : DataW H} {ps : List MemPlace}
    (ht : Try.prog.underlying t = some (.slice 54)) (h : DataW.Trod enc Try.prog W base spare held t (.slice a len cap) d ps) :
    ∃ l : List S58, l.length = len ∧ len ≤ cap ∧ Kd.C k58 W a l.length l := by
  obtain ⟨fuel, hf⟩ := h
  rcases open_slice ht hf with ⟨hcs, _⟩ | ⟨x, len', cap', m, n, D, Pl, hcs, _, hl, hm, hmm, _, hi⟩
  · simp [Value.cells] at hcs
    obtain ⟨rfl, rfl, rfl⟩ := hcs
    exact ⟨[], rfl, Nat.le_refl _, Kd.C_nil _ _⟩
  · simp [Value.cells] at hcs
    obtain ⟨rfl, rfl, rfl⟩ := hcs
    have hC : Try.prog.cellsOf 54 = 2 := by kernel_rfl
    rw [hC] at hi
    have hx : ∀ i, i < len → ∃ s : S58, W.cell? (x.add (i * 2)) = some (.int .i64 s.f0) ∧ W.cell? (x.add (i * 2 + 1)) = some (.int .i64 s.f1) := fun i hil => by
      obtain ⟨cs', hc, ht'⟩ := hi i (by rw [hmm]; split <;> omega)
      obtain ⟨_, hcl, hat⟩ := World.cells?_some hc
      obtain ⟨c0, c1, rfl⟩ : ∃ c0 c1, cs' = [c0, c1] := by
        match cs', hcl with
        | [c0, c1], _ => exact ⟨c0, c1, rfl⟩
      obtain ⟨xs, n', _, _, _, hxl, hel⟩ := DataW.trod_array Try.underlying54 ht'
      have hC3 : Try.prog.cellsOf 2 = 1 := by kernel_rfl
      have h0 := hel 0 (by omega)
      have h1 := hel 1 (by omega)
      rw [List.getElem?_eq_getElem (by omega)] at h0 h1
      have z0 : DataW.trod enc Try.prog W base spare held n' 2 [c0] = some (xs[0]'(by omega)) := by simpa [hC3] using h0
      have z1 : DataW.trod enc Try.prog W base spare held n' 2 [c1] = some (xs[1]'(by omega)) := by simpa [hC3] using h1
      obtain ⟨u, e0, _, _⟩ := DataW.trod_int Try.underlying2 z0
      obtain ⟨v, e1, _, _⟩ := DataW.trod_int Try.underlying2 z1
      simp only [List.cons.injEq, and_true] at e0 e1
      subst e0 e1
      have g0 := hat 0 (by omega)
      have g1 := hat 1 (by omega)
      rw [Go.Deep.add_add] at g0 g1
      exact ⟨⟨u, v⟩, by simpa using g0, by simpa using g1⟩
    obtain ⟨f, hF⟩ : ∃ f : Nat → S58, ∀ i, i < len → W.cell? (x.add (i * 2)) = some (.int .i64 (f i).f0) ∧ W.cell? (x.add (i * 2 + 1)) = some (.int .i64 (f i).f1) :=
      ⟨fun i => if h : i < len then Classical.choose (hx i h) else z58, fun i hi => by simp only [dif_pos hi]; exact Classical.choose_spec (hx i hi)⟩
    refine ⟨(List.range len).map f, by simp, hl, ?_, ?_, fun hn => ⟨x, rfl, fun j p hj => ?_⟩⟩
    · rfl
    · simp only [List.length_map, List.length_range]
      unfold maxLen at hm
      omega
    · obtain ⟨hlt, hp⟩ := List.getElem?_eq_some_iff.1 hj
      simp only [List.length_map, List.length_range] at hlt
      simp only [List.getElem_map, List.getElem_range] at hp
      have g := hF j hlt
      rw [hp] at g
      refine ⟨[.int .i64 p.f0, .int .i64 p.f1], rfl, k58_mk W p, fun i u hu => ?_⟩
      match i, hu with
      | 0, hu =>
        obtain rfl : Value.int .i64 p.f0 = u := by simpa using hu
        exact g.1
      | 1, hu =>
        obtain rfl : Value.int .i64 p.f1 = u := by simpa using hu
        exact g.2
      | i + 2, hu => simp at hu
end
end Go.Proofs.Ytocaneaofdbpoaa.Wd
