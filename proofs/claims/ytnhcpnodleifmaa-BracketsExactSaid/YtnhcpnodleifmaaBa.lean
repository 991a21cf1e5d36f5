/- The rate of an amount; the fixed answer of the stage of brackets; a slice of rows that came in, as a list of rows. -/
import Derived.Test.YtnhcpnodleifmaaPAx4
import Derived.Test.YtnhcpnodleifmaaBk
import Derived.Deep.Slices
import Derived.Deep.Fields
import Derived.ChangeSame
import Derived.Lib.SmallJoins
set_option linter.unusedVariables false
namespace Go.Proofs.Ytnhcpnodleifmaa.Wd
open Go.RowKit Go.Proofs.Ytnhcpnodleifmaa.PA Go.Proofs.YtnhcpnodleifmaaW.PrintWords Go.Proofs.YtnhcpnodleifmaaW.PrintMore

def rtx (l : List S34) (a : Int) : Nat → Int
  | 0 => 0
  | n + 1 => if a > (row l n).f0 then (row l n).f1 else rtx l a n
theorem rate_loop {l : List S34} (hl : l.length ≤ 1000000) (a : Int) (d : Nat) : ∀ (k n : Nat), n + d = l.length → d < k → brackets_Rate.l0 k a (rtx l a n) l (l.length : Int) (n : Int) = some (rtx l a l.length, 0) := by
  induction d with
  | zero =>
    intro k n hn hk
    obtain ⟨k, rfl⟩ : ∃ j, k = j + 1 := ⟨k - 1, by omega⟩
    simp only [brackets_Rate.l0]
    rw [if_neg (by omega), show n = l.length by omega]
  | succ d ih =>
    intro k n hn hk
    obtain ⟨k, rfl⟩ : ∃ j, k = j + 1 := ⟨k - 1, by omega⟩
    have := ih k (n + 1) (by omega) (by omega)
    rw [show ((n + 1 : Nat) : Int) = (n : Int) + 1 by omega] at this
    simp only [brackets_Rate.l0]
    rw [if_pos (by omega), if_pos (by omega), if_pos (by omega), row_rd, w64 (x := (n : Int) + 1) (by omega) (by omega)]
    simp only [rtx] at this
    by_cases h : a > (row l n).f0
    · rw [if_pos h] at this ⊢
      exact this
    · rw [if_neg h] at this ⊢
      exact this
theorem rate_yes {k : Nat} {l : List S34} (h : RT l) (hk : 20 ≤ k) {a : Int} (a0 : -9223372036854775807 ≤ a) : brackets_Rate.f k l a = some (rtx l a l.length, 0) := by
  unfold brackets_Rate.f
  rw [check_yes h (by omega), Option.bind_some, if_pos a0, if_pos rfl]
  exact rate_loop (by have := h.2.2; omega) a l.length k 0 (by omega) (by have := h.2.2; omega)
theorem rate_no {k : Nat} {l : List S34} (h : ¬ RT l) (hl : l.length ≤ 1000000) (hk : l.length + 1 ≤ k) (a : Int) : brackets_Rate.f k l a = some (0, 1) := by
  unfold brackets_Rate.f
  rw [check_no h hl hk, Option.bind_some, if_neg (by omega)]
theorem rate_over {k : Nat} {l : List S34} (h : RT l) (hk : 20 ≤ k) {a : Int} (a0 : a < -9223372036854775807) : brackets_Rate.f k l a = some (0, 3) := by
  unfold brackets_Rate.f
  rw [check_yes h (by omega), Option.bind_some, if_neg (by omega), if_neg (by omega)]
theorem awake_eq {k : Nat} (hk : 60 ≤ k) : paymasterlaw05_awake.f k = some true := by
  have r := rt_two (r := 1000) (s := 2000) (c := 10000) (by omega) (by omega) (by omega) (by omega) (by omega)
  have t1 : tx [⟨0, 1000⟩, ⟨10000, 2000⟩] 15000 2 = 2000 := by decide +kernel
  have t2 : rtx [⟨0, 1000⟩, ⟨10000, 2000⟩] 15000 2 = 2000 := by decide +kernel
  unfold paymasterlaw05_awake.f
  rw [Option.bind_some, tax_yes r (by omega) (by omega) (by omega), Option.bind_some, rate_yes r (by omega) (by omega), Option.bind_some, tax_no rt_nil (by simp) (by simp; omega), Option.bind_some]
  rw [show ([⟨0, 1000⟩, ⟨10000, 2000⟩] : List S34).length = 2 from rfl, t1, t2, right_yes r (by omega)]
  simp

section
open Go.ChangeShapes Go.WideShapes Go.Deep Go.Joins
/-- A slice of rows that came in, as a list of rows. -/
theorem rows_of {H : Type} {enc : TypeId × Value → H} {W : World} {base : Nat} {spare : Nat → Bool} {held : Bool} {t : TypeId} {a : Option Addr} {len cap : Nat} {d : DataW H} {ps : List MemPlace}
    (ht : Try.prog.underlying t = some (.slice 34)) (h : DataW.Trod enc Try.prog W base spare held t (.slice a len cap) d ps) :
    ∃ l : List S34, l.length = len ∧ len ≤ cap ∧ Kd.C k34 W a l.length l := by
  obtain ⟨fuel, hf⟩ := h
  rcases open_slice ht hf with ⟨hcs, _⟩ | ⟨x, len', cap', m, n, D, Pl, hcs, _, hl, hm, hmm, _, hi⟩
  · simp [Value.cells] at hcs
    obtain ⟨rfl, rfl, rfl⟩ := hcs
    exact ⟨[], rfl, Nat.le_refl _, Kd.C_nil _ _⟩
  · simp [Value.cells] at hcs
    obtain ⟨rfl, rfl, rfl⟩ := hcs
    have hC : Try.prog.cellsOf 34 = 2 := by kernel_rfl
    rw [hC] at hi
    have hx : ∀ i, i < len → ∃ s : S34, W.cell? (x.add (i * 2)) = some (.int .i64 s.f0) ∧ W.cell? (x.add (i * 2 + 1)) = some (.int .i64 s.f1) := fun i hil => by
      obtain ⟨cs', hc, ht'⟩ := hi i (by rw [hmm]; split <;> omega)
      obtain ⟨_, hcl, hat⟩ := World.cells?_some hc
      obtain ⟨c0, c1, rfl⟩ : ∃ c0 c1, cs' = [c0, c1] := by
        match cs', hcl with
        | [c0, c1], _ => exact ⟨c0, c1, rfl⟩
      obtain ⟨y0, y1, n', _, _, h0, h1⟩ := trod_struct2 Try.underlying34 ht'
      have hC3 : Try.prog.cellsOf 3 = 1 := by kernel_rfl
      have z0 : DataW.trod enc Try.prog W base spare held n' 3 [c0] = some y0 := by simpa [hC3] using h0
      have z1 : DataW.trod enc Try.prog W base spare held n' 3 [c1] = some y1 := by simpa [hC3] using h1
      obtain ⟨u, e0, _, _⟩ := DataW.trod_int Try.underlying3 z0
      obtain ⟨v, e1, _, _⟩ := DataW.trod_int Try.underlying3 z1
      simp only [List.cons.injEq, and_true] at e0 e1
      subst e0 e1
      have g0 := hat 0 (by omega)
      have g1 := hat 1 (by omega)
      rw [Go.Deep.add_add] at g0 g1
      exact ⟨⟨u, v⟩, by simpa using g0, by simpa using g1⟩
    obtain ⟨f, hF⟩ : ∃ f : Nat → S34, ∀ i, i < len → W.cell? (x.add (i * 2)) = some (.int .i64 (f i).f0) ∧ W.cell? (x.add (i * 2 + 1)) = some (.int .i64 (f i).f1) :=
      ⟨fun i => if h : i < len then Classical.choose (hx i h) else z34, fun i hi => by simp only [dif_pos hi]; exact Classical.choose_spec (hx i hi)⟩
    refine ⟨(List.range len).map f, by simp, hl, ?_, ?_, fun hn => ⟨x, rfl, fun j p hj => ?_⟩⟩
    · rfl
    · simp only [List.length_map, List.length_range]
      unfold maxLen at hm
      omega
    · obtain ⟨hlt, hp⟩ := List.getElem?_eq_some_iff.1 hj
      simp only [List.length_map, List.length_range] at hlt
      simp only [List.getElem_map, List.getElem_range] at hp
      have g := hF j hlt
      rw [hp] at g
      refine ⟨[.int .i64 p.f0, .int .i64 p.f1], rfl, k34_mk W p, fun i u hu => ?_⟩
      match i, hu with
      | 0, hu =>
        obtain rfl : Value.int .i64 p.f0 = u := by simpa using hu
        exact g.1
      | 1, hu =>
        obtain rfl : Value.int .i64 p.f1 = u := by simpa using hu
        exact g.2
      | i + 2, hu => simp at hu
end
end Go.Proofs.Ytnhcpnodleifmaa.Wd
