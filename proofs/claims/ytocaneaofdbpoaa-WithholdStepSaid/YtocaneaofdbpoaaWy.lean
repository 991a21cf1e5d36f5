/- A year that came in: three numbers and two lists of numbers. -/
import Derived.Test.YtocaneaofdbpoaaWs
set_option linter.unusedVariables false
namespace Go.Proofs.Ytocaneaofdbpoaa.Wd
open Go.RowKit Go.Proofs.Ytocaneaofdbpoaa.PA Go.Proofs.YtocaneaofdbpoaaW.PrintWords Go.Proofs.YtocaneaofdbpoaaW.PrintMore
section
open Go.ChangeShapes Go.WideShapes Go.Deep Go.Joins
variable {H : Type} {enc : TypeId × Value → H} {P : Program} {W : World} {base : Nat} {spare : Nat → Bool} {held : Bool}
theorem array5 {α : Type} {cs : Array α} (h : cs.size = 5) : ∃ c0 c1 c2 c3 c4, cs = #[c0, c1, c2, c3, c4] := by
  obtain ⟨l⟩ := cs
  match l, h with
  | [c0, c1, c2, c3, c4], _ => exact ⟨c0, c1, c2, c3, c4, rfl⟩
theorem trod_struct5 {t : TypeId} {f0 f1 f2 f3 f4 : Field} {fuel : Nat} {cs : List Value} {x : DataW H × List MemPlace} (ht : P.underlying t = some (.struct #[f0, f1, f2, f3, f4])) (h : DataW.trod enc P W base spare held fuel t cs = some x) :
    ∃ y0 y1 y2 y3 y4 n, DataW.trod enc P W base spare held n f0.type ((cs.drop f0.offset).take (P.cellsOf f0.type)) = some y0 ∧
      DataW.trod enc P W base spare held n f1.type ((cs.drop f1.offset).take (P.cellsOf f1.type)) = some y1 ∧ DataW.trod enc P W base spare held n f2.type ((cs.drop f2.offset).take (P.cellsOf f2.type)) = some y2 ∧
      DataW.trod enc P W base spare held n f3.type ((cs.drop f3.offset).take (P.cellsOf f3.type)) = some y3 ∧ DataW.trod enc P W base spare held n f4.type ((cs.drop f4.offset).take (P.cellsOf f4.type)) = some y4 := by
  obtain ⟨xs, n, _, rfl, hl, hlen, hf⟩ := DataW.trod_struct ht h
  match xs, hlen with
  | [y0, y1, y2, y3, y4], _ => exact ⟨y0, y1, y2, y3, y4, n, by simpa using hf 0 f0 rfl, by simpa using hf 1 f1 rfl, by simpa using hf 2 f2 rfl, by simpa using hf 3 f3 rfl, by simpa using hf 4 f4 rfl⟩
theorem open_agg5 {r : Reach} {b0 : Nat} {t : TypeId} {f0 f1 f2 f3 f4 : Field} {v : Value} {d : DataW H} {p : List MemPlace} (hs : P.underlying t = some (.struct #[f0, f1, f2, f3, f4])) (hone : oneCellFields P #[f0, f1, f2, f3, f4] = true) (hC : P.cellsOf t = 5)
    (hv : Value.okWide P W r b0 t v) (h : DataW.Trod enc P W base spare held t v d p) :
    ∃ (v0 v1 v2 v3 v4 : Value) (y0 y1 y2 y3 y4 : DataW H × List MemPlace) (n : Nat), v = .agg #[v0, v1, v2, v3, v4] ∧
      DataW.trod enc P W base spare held n f0.type [v0] = some y0 ∧ DataW.trod enc P W base spare held n f1.type [v1] = some y1 ∧ DataW.trod enc P W base spare held n f2.type [v2] = some y2 ∧ DataW.trod enc P W base spare held n f3.type [v3] = some y3 ∧ DataW.trod enc P W base spare held n f4.type [v4] = some y4 := by
  obtain ⟨cs, rfl, hsz⟩ := okWide_struct hs hv
  obtain ⟨c0, c1, c2, c3, c4, rfl⟩ := array5 (hsz.trans hC)
  obtain ⟨fuel, hf⟩ := h
  obtain ⟨y0, y1, y2, y3, y4, n, h0, h1, h2, h3, h4⟩ := trod_struct5 hs hf
  obtain ⟨o0, k0⟩ := hone_of hone 0 f0 rfl
  obtain ⟨o1, k1⟩ := hone_of hone 1 f1 rfl
  obtain ⟨o2, k2⟩ := hone_of hone 2 f2 rfl
  obtain ⟨o3, k3⟩ := hone_of hone 3 f3 rfl
  obtain ⟨o4, k4⟩ := hone_of hone 4 f4 rfl
  exact ⟨c0, c1, c2, c3, c4, y0, y1, y2, y3, y4, n, rfl, by simpa [Value.cells, o0, k0] using h0, by simpa [Value.cells, o1, k1] using h1, by simpa [Value.cells, o2, k2] using h2, by simpa [Value.cells, o3, k3] using h3, by simpa [Value.cells, o4, k4] using h4⟩
/-- A slice of numbers that came in, as a list of numbers. -/
theorem ints_of {t : TypeId} {a : Option Addr} {len cap : Nat} {d : DataW H} {ps : List MemPlace}
    (ht : Try.prog.underlying t = some (.slice 3)) (h : DataW.Trod enc Try.prog W base spare held t (.slice a len cap) d ps) :
    ∃ l : List Int, l.length = len ∧ len ≤ cap ∧ Kd.C (Kd.int .i64) W a l.length l := by
  obtain ⟨fuel, hf⟩ := h
  rcases open_slice ht hf with ⟨hcs, _⟩ | ⟨x, len', cap', m, n, D, Pl, hcs, _, hl, hm, hmm, _, hi⟩
  · simp [Value.cells] at hcs
    obtain ⟨rfl, rfl, rfl⟩ := hcs
    exact ⟨[], rfl, Nat.le_refl _, Kd.C_nil _ _⟩
  · simp [Value.cells] at hcs
    obtain ⟨rfl, rfl, rfl⟩ := hcs
    have hC : Try.prog.cellsOf 3 = 1 := by kernel_rfl
    rw [hC] at hi
    have hx : ∀ i, i < len → ∃ z : Int, W.cell? (x.add (i * 1)) = some (.int .i64 z) := fun i hil => by
      obtain ⟨cs', hc, ht'⟩ := hi i (by rw [hmm]; split <;> omega)
      obtain ⟨_, hcl, hat⟩ := World.cells?_some hc
      obtain ⟨c0, rfl⟩ : ∃ c0, cs' = [c0] := by
        match cs', hcl with
        | [c0], _ => exact ⟨c0, rfl⟩
      obtain ⟨u, e0, _, _⟩ := DataW.trod_int Try.underlying3 ht'
      simp only [List.cons.injEq, and_true] at e0
      subst e0
      have g0 := hat 0 (by omega)
      rw [Go.Deep.add_add] at g0
      exact ⟨u, by simpa using g0⟩
    obtain ⟨f, hF⟩ : ∃ f : Nat → Int, ∀ i, i < len → W.cell? (x.add (i * 1)) = some (.int .i64 (f i)) :=
      ⟨fun i => if h : i < len then Classical.choose (hx i h) else 0, fun i hi => by simp only [dif_pos hi]; exact Classical.choose_spec (hx i hi)⟩
    refine ⟨(List.range len).map f, by simp, hl, ?_, ?_, fun hn => ⟨x, rfl, fun j p hj => ?_⟩⟩
    · rfl
    · simp only [List.length_map, List.length_range]
      unfold maxLen at hm
      omega
    · obtain ⟨hlt, hp⟩ := List.getElem?_eq_some_iff.1 hj
      simp only [List.length_map, List.length_range] at hlt
      simp only [List.getElem_map, List.getElem_range] at hp
      have g := hF j hlt
      rw [hp] at g
      refine ⟨[.int .i64 p], rfl, rfl, fun i u hu => ?_⟩
      match i, hu with
      | 0, hu =>
        obtain rfl : Value.int .i64 p = u := by simpa using hu
        exact g
      | i + 1, hu => simp at hu
end
end Go.Proofs.Ytocaneaofdbpoaa.Wd
