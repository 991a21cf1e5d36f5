/- A scheme that came in, as two lists; what is paid is not less of more. -/
import Derived.Test.YtocaneaofdbpoaaWj
import Derived.Deep.Slices
import Derived.Deep.Fields
import Derived.ChangeSame
import Derived.Lib.SmallJoins
import Derived.Deep.Strs
set_option linter.unusedVariables false
namespace Go.Proofs.Ytocaneaofdbpoaa.Wd
open Go.RowKit Go.Proofs.Ytocaneaofdbpoaa.PA Go.Proofs.YtocaneaofdbpoaaW.PrintWords Go.Proofs.YtocaneaofdbpoaaW.PrintMore
theorem small_eq (l : List S58) (m : List S41) : paymasterlaw14_small.f l m = some (decide (l.length ≤ 40 ∧ m.length ≤ 40)) := by
  unfold paymasterlaw14_small.f
  by_cases h : (l.length : Int) ≤ 40
  · rw [if_pos h]
    congr 1
    rw [Bool.eq_iff_iff, decide_eq_true_eq, decide_eq_true_eq]
    omega
  · rw [if_neg h, decide_eq_false (by omega)]
theorem cnt_mono {f : S41} {a b : Int} (h : a ≤ b) : cnt f a ≤ cnt f b := by unfold cnt; omega
theorem cnt_nn {f : S41} (h : Fok f) (b : Int) : 0 ≤ cnt f b ∧ cnt f b ≤ max b 0 ∧ cnt f b ≤ f.f2 := by
  have := h.2.2.2.2
  unfold cnt
  omega
theorem share_bd {p r : Int} (p0 : 0 ≤ p) (r0 : 0 ≤ r) (r1 : r ≤ 10000) : 0 ≤ p * r / 10000 ∧ p * r / 10000 ≤ p := by
  have m0 := Int.mul_nonneg p0 r0
  have m1 := Int.mul_le_mul_of_nonneg_left r1 p0
  omega
theorem share_mono {p q r : Int} (h : p ≤ q) (r0 : 0 ≤ r) : p * r / 10000 ≤ q * r / 10000 := by
  have := Int.mul_le_mul_of_nonneg_right h r0
  omega
theorem pd_bd {m : List S41} {n : Nat} (h : Fok (fd m n)) (b : Int) : 0 ≤ pd m b n ∧ pd m b n ≤ max b 0 ∧ pd m b n ≤ (fd m n).f2 := by
  have c := cnt_nn h b
  have s := share_bd c.1 h.1 h.2.1
  unfold pd
  omega
theorem pd_mono {m : List S41} {n : Nat} (h : Fok (fd m n)) {a b : Int} (hab : a ≤ b) : pd m a n ≤ pd m b n := share_mono (cnt_mono hab) h.1
theorem ow_mono {m : List S41} {n : Nat} (h : Fok (fd m n)) {a b : Int} (hab : a ≤ b) : ow m a n ≤ ow m b n := share_mono (cnt_mono hab) h.2.2.1
theorem pds_rd {m : List S41} {n : Nat} (h : n < m.length) (b : Int) : rd (pds m b) (n : Int) = pd m b n := map_at _ h
theorem ows_rd {m : List S41} {n : Nat} (h : n < m.length) (b : Int) : rd (ows m b) (n : Int) = ow m b n := map_at _ h

section
open Go.ChangeShapes Go.WideShapes Go.Deep Go.Joins
/-- A slice of rows that came in, as a list of rows. -/
theorem rows_of {H : Type} {enc : TypeId × Value → H} {W : World} {base : Nat} {spare : Nat → Bool} {held : Bool} {t : TypeId} {a : Option Addr} {len cap : Nat} {d : DataW H} {ps : List MemPlace}
    (ht : Try.prog.underlying t = some (.slice 58)) (h : DataW.Trod enc Try.prog W base spare held t (.slice a len cap) d ps) :
    ∃ l : List S58, l.length = len ∧ len ≤ cap ∧ Kd.C k58 W a l.length l := by
  obtain ⟨fuel, hf⟩ := h
  rcases open_slice ht hf with ⟨hcs, _⟩ | ⟨x, len', cap', m, n, D, Pl, hcs, _, hl, hm, hmm, _, hi⟩
  · simp [Value.cells] at hcs
    obtain ⟨rfl, rfl, rfl⟩ := hcs
    exact ⟨[], rfl, Nat.le_refl _, Kd.C_nil _ _⟩
  · simp [Value.cells] at hcs
    obtain ⟨rfl, rfl, rfl⟩ := hcs
    have hC : Try.prog.cellsOf 58 = 2 := by kernel_rfl
    rw [hC] at hi
    have hx : ∀ i, i < len → ∃ s : S58, W.cell? (x.add (i * 2)) = some (.int .i64 s.f0) ∧ W.cell? (x.add (i * 2 + 1)) = some (.int .i64 s.f1) := fun i hil => by
      obtain ⟨cs', hc, ht'⟩ := hi i (by rw [hmm]; split <;> omega)
      obtain ⟨_, hcl, hat⟩ := World.cells?_some hc
      obtain ⟨c0, c1, rfl⟩ : ∃ c0 c1, cs' = [c0, c1] := by
        match cs', hcl with
        | [c0, c1], _ => exact ⟨c0, c1, rfl⟩
      obtain ⟨y0, y1, n', _, _, h0, h1⟩ := trod_struct2 Try.underlying58 ht'
      have hC3 : Try.prog.cellsOf 3 = 1 := by kernel_rfl
      have z0 : DataW.trod enc Try.prog W base spare held n' 3 [c0] = some y0 := by simpa [hC3] using h0
      have z1 : DataW.trod enc Try.prog W base spare held n' 3 [c1] = some y1 := by simpa [hC3] using h1
      obtain ⟨u, e0, _, _⟩ := DataW.trod_int Try.underlying3 z0
      obtain ⟨v, e1, _, _⟩ := DataW.trod_int Try.underlying3 z1
      simp only [List.cons.injEq, and_true] at e0 e1
      subst e0 e1
      have g0 := hat 0 (by omega)
      have g1 := hat 1 (by omega)
      rw [Go.Deep.add_add] at g0 g1
      exact ⟨⟨u, v⟩, by simpa using g0, by simpa using g1⟩
    obtain ⟨f, hF⟩ : ∃ f : Nat → S58, ∀ i, i < len → W.cell? (x.add (i * 2)) = some (.int .i64 (f i).f0) ∧ W.cell? (x.add (i * 2 + 1)) = some (.int .i64 (f i).f1) :=
      ⟨fun i => if h : i < len then Classical.choose (hx i h) else z58, fun i hi => by simp only [dif_pos hi]; exact Classical.choose_spec (hx i hi)⟩
    refine ⟨(List.range len).map f, by simp, hl, ?_, ?_, fun hn => ⟨x, rfl, fun j p hj => ?_⟩⟩
    · rfl
    · simp only [List.length_map, List.length_range]
      unfold maxLen at hm
      omega
    · obtain ⟨hlt, hp⟩ := List.getElem?_eq_some_iff.1 hj
      simp only [List.length_map, List.length_range] at hlt
      simp only [List.getElem_map, List.getElem_range] at hp
      have g := hF j hlt
      rw [hp] at g
      refine ⟨[.int .i64 p.f0, .int .i64 p.f1], rfl, k58_mk W p, fun i u hu => ?_⟩
      match i, hu with
      | 0, hu =>
        obtain rfl : Value.int .i64 p.f0 = u := by simpa using hu
        exact g.1
      | 1, hu =>
        obtain rfl : Value.int .i64 p.f1 = u := by simpa using hu
        exact g.2
      | i + 2, hu => simp at hu
/-- A slice of funds that came in, as a list of funds. -/
theorem funds_of {H : Type} {enc : TypeId × Value → H} {W : World} {base : Nat} {spare : Nat → Bool} {held : Bool} {t : TypeId} {a : Option Addr} {len cap : Nat} {d : DataW H} {ps : List MemPlace}
    (ht : Try.prog.underlying t = some (.slice 41)) (h : DataW.Trod enc Try.prog W base spare held t (.slice a len cap) d ps) :
    ∃ l : List S41, l.length = len ∧ len ≤ cap ∧ Kd.C k41 W a l.length l := by
  obtain ⟨fuel, hf⟩ := h
  rcases open_slice ht hf with ⟨hcs, _⟩ | ⟨x, len', cap', m, n, D, Pl, hcs, _, hl, hm, hmm, _, hi⟩
  · simp [Value.cells] at hcs
    obtain ⟨rfl, rfl, rfl⟩ := hcs
    exact ⟨[], rfl, Nat.le_refl _, Kd.C_nil _ _⟩
  · simp [Value.cells] at hcs
    obtain ⟨rfl, rfl, rfl⟩ := hcs
    have hC : Try.prog.cellsOf 41 = 3 := by kernel_rfl
    rw [hC] at hi
    have hx : ∀ i, i < len → ∃ s : S41, W.cell? (x.add (i * 3)) = some (.int .i64 s.f0) ∧ W.cell? (x.add (i * 3 + 1)) = some (.int .i64 s.f1) ∧ W.cell? (x.add (i * 3 + 2)) = some (.int .i64 s.f2) := fun i hil => by
      obtain ⟨cs', hc, ht'⟩ := hi i (by rw [hmm]; split <;> omega)
      obtain ⟨_, hcl, hat⟩ := World.cells?_some hc
      obtain ⟨c0, c1, c2, rfl⟩ : ∃ c0 c1 c2, cs' = [c0, c1, c2] := by
        match cs', hcl with
        | [c0, c1, c2], _ => exact ⟨c0, c1, c2, rfl⟩
      obtain ⟨y0, y1, y2, n', _, _, h0, h1, h2⟩ := trod_struct3 Try.underlying41 ht'
      have hC3 : Try.prog.cellsOf 3 = 1 := by kernel_rfl
      have z0 : DataW.trod enc Try.prog W base spare held n' 3 [c0] = some y0 := by simpa [hC3] using h0
      have z1 : DataW.trod enc Try.prog W base spare held n' 3 [c1] = some y1 := by simpa [hC3] using h1
      have z2 : DataW.trod enc Try.prog W base spare held n' 3 [c2] = some y2 := by simpa [hC3] using h2
      obtain ⟨u, e0, _, _⟩ := DataW.trod_int Try.underlying3 z0
      obtain ⟨v, e1, _, _⟩ := DataW.trod_int Try.underlying3 z1
      obtain ⟨v2, e2, _, _⟩ := DataW.trod_int Try.underlying3 z2
      simp only [List.cons.injEq, and_true] at e0 e1 e2
      subst e0 e1 e2
      have g0 := hat 0 (by omega)
      have g1 := hat 1 (by omega)
      have g2 := hat 2 (by omega)
      rw [Go.Deep.add_add] at g0 g1 g2
      exact ⟨⟨u, v, v2⟩, by simpa using g0, by simpa using g1, by simpa using g2⟩
    obtain ⟨f, hF⟩ : ∃ f : Nat → S41, ∀ i, i < len → W.cell? (x.add (i * 3)) = some (.int .i64 (f i).f0) ∧ W.cell? (x.add (i * 3 + 1)) = some (.int .i64 (f i).f1) ∧ W.cell? (x.add (i * 3 + 2)) = some (.int .i64 (f i).f2) :=
      ⟨fun i => if h : i < len then Classical.choose (hx i h) else z41, fun i hi => by simp only [dif_pos hi]; exact Classical.choose_spec (hx i hi)⟩
    refine ⟨(List.range len).map f, by simp, hl, ?_, ?_, fun hn => ⟨x, rfl, fun j p hj => ?_⟩⟩
    · rfl
    · simp only [List.length_map, List.length_range]
      unfold maxLen at hm
      omega
    · obtain ⟨hlt, hp⟩ := List.getElem?_eq_some_iff.1 hj
      simp only [List.length_map, List.length_range] at hlt
      simp only [List.getElem_map, List.getElem_range] at hp
      have g := hF j hlt
      rw [hp] at g
      refine ⟨[.int .i64 p.f0, .int .i64 p.f1, .int .i64 p.f2], rfl, k41_mk W p, fun i u hu => ?_⟩
      match i, hu with
      | 0, hu =>
        obtain rfl : Value.int .i64 p.f0 = u := by simpa using hu
        exact g.1
      | 1, hu =>
        obtain rfl : Value.int .i64 p.f1 = u := by simpa using hu
        exact g.2.1
      | 2, hu =>
        obtain rfl : Value.int .i64 p.f2 = u := by simpa using hu
        exact g.2.2
      | i + 3, hu => simp at hu
end
end Go.Proofs.Ytocaneaofdbpoaa.Wd
