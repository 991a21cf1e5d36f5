/- Contracts of the functions of the given program: written by wip/pmprint.py, a program of this session, which runs the print of the kit over altered functions. -/
import Derived.Test.YtocaneaofdbpoaaProg
import Derived.Below
import Derived.Deep.Draws
import Derived.Deep.AppendLies
import Derived.Maps.AppendAt
import Derived.OwnWalk
import Derived.Laws.BytesArg
import Derived.Laws.MakeOwn
import Derived.Laws.OwnMore
import Derived.Deep.OwnRows
import Derived.Tactics
import Derived.Lib.ConvBytes
import Derived.Laws.Slices
import Derived.WalkKit
import Derived.KernelRfl
import Derived.RowKit3
import Derived.Deep.LoopGhost
import Derived.Deep.QuietTactic
import Derived.BigQuiet
import Derived.WideLaws
import Derived.Deep.DeepCutAuto
import Derived.Deep.CutBlock
import Derived.Deep.RegionHeld3
import Derived.Laws.Rows
import Derived.Lib.AppendStr
import Derived.ArgAppend
import Derived.Laws.IdiomCopy
import Derived.OrdersHeld
import Derived.Laws.BitsLemmas
import Derived.RowKit
import Derived.Test.YtocaneaofdbpoaaLen64
import Derived.Test.YtocaneaofdbpoaaCw
namespace Go.Proofs.Ytocaneaofdbpoaa.PA
open Go.RowKit Go.Proofs.YtocaneaofdbpoaaW.PrintWords Go.Proofs.YtocaneaofdbpoaaW.PrintLast Go.Proofs.YtocaneaofdbpoaaW.PrintMore
attribute [local go_sem] max2_int min2_int max_two min_two max_three min_three max_four min_four   -- for this text's walks alone
set_option linter.unusedVariables false
set_option linter.unusedSimpArgs false



def errW : Option Int → Value
  | none => .nilIface
  | some c => .iface 0 (.int .i64 c)
theorem errW_none : errW none = .nilIface := rfl
theorem errW_some (c : Int) : errW (some c) = .iface 0 (.int .i64 c) := rfl

theorem info3 : (Try.prog.info? 3).map (fun i => (i.zero, i.size, i.bytes)) = some (some (.int .i64 0), 1, 8) := by kernel_rfl
theorem info41 : (Try.prog.info? 41).map (fun i => (i.zero, i.size, i.bytes)) = some (some (.agg #[(.int .i64 0), (.int .i64 0), (.int .i64 0)]), 3, 24) := by kernel_rfl
theorem info58 : (Try.prog.info? 58).map (fun i => (i.zero, i.size, i.bytes)) = some (some (.agg #[(.int .i64 0), (.int .i64 0)]), 2, 16) := by kernel_rfl
theorem info68 : (Try.prog.info? 68).map (fun i => (i.zero, i.size, i.bytes)) = some (some (.agg #[(.int .i64 0), (.int .i64 0), (.int .i64 0)]), 3, 24) := by kernel_rfl
-- the values' own types
/-! #### struct type 58 -/
structure S58 where
  f0 : Int
  f1 : Int
def z58 : S58 := ⟨(0 : Int), (0 : Int)⟩
def k58 : Kd S58 := Kd.iso (Kd.pair (Kd.int .i64) (Kd.int .i64)) (fun x : S58 => (x.f0, x.f1))
theorem k58_heap : Kd.Heap k58 := Kd.heap_iso _ (Kd.heap_pair (Kd.heap_int .i64) (Kd.heap_int .i64))
theorem k58_open {w : World} {x : S58} {cs : List Value} (h : k58.K w x cs) : cs = [.int .i64 x.f0, .int .i64 x.f1] := by
  obtain ⟨_, _, rfl, rfl, rfl⟩ := h
  exact rfl
theorem k58_openM {w : World} {base : Nat} {ok : Nat → Prop} {x : S58} {cs : List Value} (h : k58.M w base ok x cs) : cs = [.int .i64 x.f0, .int .i64 x.f1] := by
  obtain ⟨_, _, rfl, rfl, rfl⟩ := h
  exact rfl
theorem k58_mk (w : World) (x : S58)  : k58.K w x [.int .i64 x.f0, .int .i64 x.f1] := ⟨[.int .i64 x.f0], [.int .i64 x.f1], rfl, rfl, rfl⟩
theorem k58_mkM (w : World) (base : Nat) (ok : Nat → Prop) (x : S58)  : k58.M w base ok x [.int .i64 x.f0, .int .i64 x.f1] := ⟨[.int .i64 x.f0], [.int .i64 x.f1], rfl, rfl, rfl⟩
theorem k58_mkF (W : World) (ok : Nat → Prop) (x : S58) : Kd.FK k58 W ok x [.int .i64 x.f0, .int .i64 x.f1] := fun W2 _ => k58_mk W2 x
def rd_T58 (xs : List S58) (i : Int) : S58 := xs.getD i.toNat z58
theorem at_T58 {w : World} {A : Option Addr} {n : Nat} {xs : List S58} (h : Kd.C k58 w A n xs) (i : Int) (h0 : 0 ≤ i) (h1 : i < n) : ∃ ad , A = some ad ∧ w.cell? (ad.add (i.toNat * 2)) = some (.int .i64 (rd_T58 xs i).f0) ∧ w.cell? ⟨(ad.add (i.toNat * 2)).block, (ad.add (i.toNat * 2)).off + 1, none⟩ = some (.int .i64 (rd_T58 xs i).f1) := by
  obtain ⟨ad, c, e, _, hK, hc0⟩ := Kd.C_get h z58 i h0 h1
  have hc : ∀ j u, c[j]? = some u → w.cell? (ad.add (i.toNat * 2 + j)) = some u := hc0
  obtain rfl := k58_open hK
  exact ⟨ad, e, hc 0 _ rfl, by rw [← add_field _ _ 1 (by omega)]; exact hc 1 _ rfl⟩

/-! #### struct type 41 -/
structure S41 where
  f0 : Int
  f1 : Int
  f2 : Int
def z41 : S41 := ⟨(0 : Int), (0 : Int), (0 : Int)⟩
def k41 : Kd S41 := Kd.iso (Kd.pair (Kd.int .i64) (Kd.pair (Kd.int .i64) (Kd.int .i64))) (fun x : S41 => (x.f0, x.f1, x.f2))
theorem k41_heap : Kd.Heap k41 := Kd.heap_iso _ (Kd.heap_pair (Kd.heap_int .i64) (Kd.heap_pair (Kd.heap_int .i64) (Kd.heap_int .i64)))
theorem k41_open {w : World} {x : S41} {cs : List Value} (h : k41.K w x cs) : cs = [.int .i64 x.f0, .int .i64 x.f1, .int .i64 x.f2] := by
  obtain ⟨_, _, rfl, rfl, ⟨_, _, rfl, rfl, rfl⟩⟩ := h
  exact rfl
theorem k41_openM {w : World} {base : Nat} {ok : Nat → Prop} {x : S41} {cs : List Value} (h : k41.M w base ok x cs) : cs = [.int .i64 x.f0, .int .i64 x.f1, .int .i64 x.f2] := by
  obtain ⟨_, _, rfl, rfl, ⟨_, _, rfl, rfl, rfl⟩⟩ := h
  exact rfl
theorem k41_mk (w : World) (x : S41)  : k41.K w x [.int .i64 x.f0, .int .i64 x.f1, .int .i64 x.f2] := ⟨[.int .i64 x.f0], [.int .i64 x.f1, .int .i64 x.f2], rfl, rfl, ⟨[.int .i64 x.f1], [.int .i64 x.f2], rfl, rfl, rfl⟩⟩
theorem k41_mkM (w : World) (base : Nat) (ok : Nat → Prop) (x : S41)  : k41.M w base ok x [.int .i64 x.f0, .int .i64 x.f1, .int .i64 x.f2] := ⟨[.int .i64 x.f0], [.int .i64 x.f1, .int .i64 x.f2], rfl, rfl, ⟨[.int .i64 x.f1], [.int .i64 x.f2], rfl, rfl, rfl⟩⟩
theorem k41_mkF (W : World) (ok : Nat → Prop) (x : S41) : Kd.FK k41 W ok x [.int .i64 x.f0, .int .i64 x.f1, .int .i64 x.f2] := fun W2 _ => k41_mk W2 x
def rd_T41 (xs : List S41) (i : Int) : S41 := xs.getD i.toNat z41
theorem at_T41 {w : World} {A : Option Addr} {n : Nat} {xs : List S41} (h : Kd.C k41 w A n xs) (i : Int) (h0 : 0 ≤ i) (h1 : i < n) : ∃ ad , A = some ad ∧ w.cell? (ad.add (i.toNat * 3)) = some (.int .i64 (rd_T41 xs i).f0) ∧ w.cell? ⟨(ad.add (i.toNat * 3)).block, (ad.add (i.toNat * 3)).off + 1, none⟩ = some (.int .i64 (rd_T41 xs i).f1) ∧ w.cell? ⟨(ad.add (i.toNat * 3)).block, (ad.add (i.toNat * 3)).off + 2, none⟩ = some (.int .i64 (rd_T41 xs i).f2) := by
  obtain ⟨ad, c, e, _, hK, hc0⟩ := Kd.C_get h z41 i h0 h1
  have hc : ∀ j u, c[j]? = some u → w.cell? (ad.add (i.toNat * 3 + j)) = some u := hc0
  obtain rfl := k41_open hK
  exact ⟨ad, e, hc 0 _ rfl, by rw [← add_field _ _ 1 (by omega)]; exact hc 1 _ rfl, by rw [← add_field _ _ 2 (by omega)]; exact hc 2 _ rfl⟩

/-! #### struct type 68 -/
structure S68 where
  f0 : Int
  f1 : Int
  f2 : Int
def z68 : S68 := ⟨(0 : Int), (0 : Int), (0 : Int)⟩
def k68 : Kd S68 := Kd.iso (Kd.pair (Kd.int .i64) (Kd.pair (Kd.int .i64) (Kd.int .i64))) (fun x : S68 => (x.f0, x.f1, x.f2))
theorem k68_heap : Kd.Heap k68 := Kd.heap_iso _ (Kd.heap_pair (Kd.heap_int .i64) (Kd.heap_pair (Kd.heap_int .i64) (Kd.heap_int .i64)))
theorem k68_open {w : World} {x : S68} {cs : List Value} (h : k68.K w x cs) : cs = [.int .i64 x.f0, .int .i64 x.f1, .int .i64 x.f2] := by
  obtain ⟨_, _, rfl, rfl, ⟨_, _, rfl, rfl, rfl⟩⟩ := h
  exact rfl
theorem k68_openM {w : World} {base : Nat} {ok : Nat → Prop} {x : S68} {cs : List Value} (h : k68.M w base ok x cs) : cs = [.int .i64 x.f0, .int .i64 x.f1, .int .i64 x.f2] := by
  obtain ⟨_, _, rfl, rfl, ⟨_, _, rfl, rfl, rfl⟩⟩ := h
  exact rfl
theorem k68_mk (w : World) (x : S68)  : k68.K w x [.int .i64 x.f0, .int .i64 x.f1, .int .i64 x.f2] := ⟨[.int .i64 x.f0], [.int .i64 x.f1, .int .i64 x.f2], rfl, rfl, ⟨[.int .i64 x.f1], [.int .i64 x.f2], rfl, rfl, rfl⟩⟩
theorem k68_mkM (w : World) (base : Nat) (ok : Nat → Prop) (x : S68)  : k68.M w base ok x [.int .i64 x.f0, .int .i64 x.f1, .int .i64 x.f2] := ⟨[.int .i64 x.f0], [.int .i64 x.f1, .int .i64 x.f2], rfl, rfl, ⟨[.int .i64 x.f1], [.int .i64 x.f2], rfl, rfl, rfl⟩⟩
theorem k68_mkF (W : World) (ok : Nat → Prop) (x : S68) : Kd.FK k68 W ok x [.int .i64 x.f0, .int .i64 x.f1, .int .i64 x.f2] := fun W2 _ => k68_mk W2 x
def rd_T68 (xs : List S68) (i : Int) : S68 := xs.getD i.toNat z68
theorem at_T68 {w : World} {A : Option Addr} {n : Nat} {xs : List S68} (h : Kd.C k68 w A n xs) (i : Int) (h0 : 0 ≤ i) (h1 : i < n) : ∃ ad , A = some ad ∧ w.cell? (ad.add (i.toNat * 3)) = some (.int .i64 (rd_T68 xs i).f0) ∧ w.cell? ⟨(ad.add (i.toNat * 3)).block, (ad.add (i.toNat * 3)).off + 1, none⟩ = some (.int .i64 (rd_T68 xs i).f1) ∧ w.cell? ⟨(ad.add (i.toNat * 3)).block, (ad.add (i.toNat * 3)).off + 2, none⟩ = some (.int .i64 (rd_T68 xs i).f2) := by
  obtain ⟨ad, c, e, _, hK, hc0⟩ := Kd.C_get h z68 i h0 h1
  have hc : ∀ j u, c[j]? = some u → w.cell? (ad.add (i.toNat * 3 + j)) = some u := hc0
  obtain rfl := k68_open hK
  exact ⟨ad, e, hc 0 _ rfl, by rw [← add_field _ _ 1 (by omega)]; exact hc 1 _ rfl, by rw [← add_field _ _ 2 (by omega)]; exact hc 2 _ rfl⟩

section
/-- What holds of a world ahead of draws and allocs holds behind them. -/
theorem bq_ {P Q : Prop} (h : Q) (g : Q → P := by (intro h_; (with_reducible repeat (first | refine blk_drewN ?_ _ | refine blk_drew ?_ | refine blk_alloc ?_ _)); exact h_)) : P := g h
theorem kr_ {P Q : Prop} (h : Q) (g : Q → P := by (intro h_; (with_reducible repeat (first | apply Kd.R_alloc | apply Kd.R_drewN | apply Kd.R_drew)); exact h_)) : P := g h
theorem kv_ {P Q : Prop} (h : Q) (g : Q → P := by (intro h_; (with_reducible repeat (first | apply Kd.V_alloc | apply Kd.V_drewN | apply Kd.V_drew)); exact h_)) : P := g h
/-- The world is as it was, but for what is new. -/
theorem bl_ {P : Prop} (g : P := by (repeat (first | (with_reducible first | exact HB.out | apply below_alloc | apply pw_below_drewN | apply below_drew1 | refine below_set ?_ (Aside0.out (by assumption))) | exact HB.out))) : P := g
theorem ga_ {P : Prop} (g : P := by (try simp only [List.map_toArray, List.map_cons, List.map_nil]); first | done | rfl | (simp only [List.length_drop, List.length_take]; rfl)) : P := g
theorem od_ {P : Prop} [Decidable P] (h : decide P = true := by first | (with_reducible assumption) | assumption) : P := of_decide_eq_true h
end

section
open Go
variable {P : Program} {ops : Array Oper} {rest : List Oper} {o : Oper} {a : Act} {Q : Exit → Act → World → Prop} {w0 w w' W W' : World} {g g' : Nat} {ob : Obj}
theorem blk_far_ {t : TypeId} {cs : Array Value} {i : Nat} {u : Value} (h : w.heap[g]? = some (.cells cs t (0, 0))) (hp : Aside0 (g ≠ g')) : (w.setCell ⟨g', i, none⟩ u).heap[g]? = some (.cells cs t (0, 0)) := blk_far h hp.out u
theorem blk_put_ {t : TypeId} {l l' : List Value} {i : Nat} {u : Value} (h : w.heap[g]? = some (.cells l.toArray t (0, 0))) (e : l.set i u = l') : (w.setCell ⟨g, i, none⟩ u).heap[g]? = some (.cells l'.toArray t (0, 0)) := blk_put h i u (by rw [← e]; exact List.setIfInBounds_toArray _ _ _)
theorem bb_ (h : w0.heap[g]? = some ob) (hb : Below w.heap.size w w') (q : w0.heap[g]? = some ob → w.heap[g]? = some ob := by (intro h_; (with_reducible repeat (first | refine blk_drewN ?_ _ | refine blk_drew ?_ | refine blk_alloc ?_ _ | refine blk_far_ ?_ (by assumption))); exact h_)) : Aside0 (w'.heap[g]? = some ob) := ⟨blk_below (q h) hb⟩
theorem bg_ {row : Option Nat} (h : w0.heap[g]? = some ob) (hg : w.grownBy w' row) (hn : some g ≠ row) (q : w0.heap[g]? = some ob → w.heap[g]? = some ob := by (intro h_; (with_reducible repeat (first | refine blk_drewN ?_ _ | refine blk_drew ?_ | refine blk_alloc ?_ _ | refine blk_far_ ?_ (by assumption))); exact h_)) : Aside0 (w'.heap[g]? = some ob) := ⟨blk_grown (q h) hg hn⟩
theorem nl_ (hg : g' = w.heap.size) (h : w0.heap[g]? = some ob) (q : w0.heap[g]? = some ob → w.heap[g]? = some ob := by (intro h_; (with_reducible repeat (first | refine blk_drewN ?_ _ | refine blk_drew ?_ | refine blk_alloc ?_ _ | refine blk_far_ ?_ (by assumption))); exact h_)) : Aside0 (g ≠ g') := ⟨by rw [hg]; exact Nat.ne_of_lt (blk_lt (q h))⟩
theorem ng_ (hg : g' = w.heap.size) (h : w0.heap[g]? = some ob) (q : w0.heap[g]? = some ob → w.heap[g]? = some ob := by (intro h_; (with_reducible repeat (first | refine blk_drewN ?_ _ | refine blk_drew ?_ | refine blk_alloc ?_ _ | refine blk_far_ ?_ (by assumption))); exact h_)) : Aside0 (g' ≠ g) := ⟨by rw [hg]; exact Nat.ne_of_gt (blk_lt (q h))⟩
theorem gs_ (hg : g = W.heap.size) (h : Below w.heap.size w W := by (repeat (first | (with_reducible first | exact HB.out | apply below_alloc | apply pw_below_drewN | apply below_drew1 | refine below_set ?_ (Aside0.out (by assumption))) | exact HB.out))) : Aside0 (w.heap.size ≤ g) := ⟨by rw [hg]; exact below_size h⟩
theorem hs_ (hb : Below W.heap.size W W') (h : Below w.heap.size w W := by (repeat (first | (with_reducible first | exact HB.out | apply below_alloc | apply pw_below_drewN | apply below_drew1 | refine below_set ?_ (Aside0.out (by assumption))) | exact HB.out))) : Aside0 (Below w.heap.size w W') := ⟨below_step h hb⟩
theorem rb_ (hq : w = w') (h : w0.heap[g]? = some ob) (q : w0.heap[g]? = some ob → w.heap[g]? = some ob := by (intro h_; (with_reducible repeat (first | refine blk_drewN ?_ _ | refine blk_drew ?_ | refine blk_alloc ?_ _ | refine blk_far_ ?_ (by assumption))); exact h_)) : Aside0 (w'.heap[g]? = some ob) := ⟨hq ▸ q h⟩
theorem rh_ (hq : W = W') (h : Below w.heap.size w W := by (repeat (first | (with_reducible first | exact HB.out | apply below_alloc | apply pw_below_drewN | apply below_drew1 | refine below_set ?_ (Aside0.out (by assumption))) | exact HB.out))) : Aside0 (Below w.heap.size w W') := ⟨hq ▸ h⟩
section
variable {α : Type} {d : Kd α} {e base : Nat} {ok : Nat → Prop} {v : Value} {xs : List α} {i1 i2 i3 i4 i5 : Nat} {u1 u2 u3 u4 u5 : Value}
theorem rk_ (hq : w = w') (h : d.R e w0 base ok v xs) (q : d.R e w0 base ok v xs → d.R e w base ok v xs := by (intro h_; (with_reducible repeat (first | apply Kd.R_alloc | apply Kd.R_drewN | apply Kd.R_drew)); exact h_)) : Aside0 (d.R e w' base ok v xs) := ⟨hq ▸ q h⟩
theorem rl_ (h : d.R e w0 base ok v xs) (hb : Below w.heap.size w w') (q : d.R e w0 base ok v xs → d.R e w base ok v xs := by (intro h_; (with_reducible repeat (first | apply Kd.R_alloc | apply Kd.R_drewN | apply Kd.R_drew)); exact h_)) : Aside0 (d.R e w' base ok v xs) := ⟨Kd.R_below (q h) hb⟩
theorem rf1_ (h : d.R e w base (fun k => ok k ∧ k ≠ g) v xs) : d.R e (w.setCell ⟨g, i1, none⟩ u1) base (fun k => ok k ∧ k ≠ g) v xs := Kd.R_far h (p := ⟨g, i1, none⟩) (fun _ hk => hk.2) u1
theorem rf2_ (h : d.R e w base (fun k => ok k ∧ k ≠ g) v xs) : d.R e ((w.setCell ⟨g, i1, none⟩ u1).setCell ⟨g, i2, none⟩ u2) base (fun k => ok k ∧ k ≠ g) v xs := rf1_ (rf1_ h)
theorem rf3_ (h : d.R e w base (fun k => ok k ∧ k ≠ g) v xs) : d.R e (((w.setCell ⟨g, i1, none⟩ u1).setCell ⟨g, i2, none⟩ u2).setCell ⟨g, i3, none⟩ u3) base (fun k => ok k ∧ k ≠ g) v xs := rf1_ (rf2_ h)
theorem rf4_ (h : d.R e w base (fun k => ok k ∧ k ≠ g) v xs) : d.R e ((((w.setCell ⟨g, i1, none⟩ u1).setCell ⟨g, i2, none⟩ u2).setCell ⟨g, i3, none⟩ u3).setCell ⟨g, i4, none⟩ u4) base (fun k => ok k ∧ k ≠ g) v xs := rf1_ (rf3_ h)
theorem rf5_ (h : d.R e w base (fun k => ok k ∧ k ≠ g) v xs) : d.R e (((((w.setCell ⟨g, i1, none⟩ u1).setCell ⟨g, i2, none⟩ u2).setCell ⟨g, i3, none⟩ u3).setCell ⟨g, i4, none⟩ u4).setCell ⟨g, i5, none⟩ u5) base (fun k => ok k ∧ k ≠ g) v xs := rf1_ (rf4_ h)
end
section
variable {t : TypeId} {x0 x1 x2 x3 x4 : Value} {l : List Value}
theorem bc0_ (h : w.heap[g]? = some (.cells (x0 :: l).toArray t (0, 0))) : w.cell? ⟨g, 0, none⟩ = some x0 := (blk_cell h 0).trans rfl
theorem bc1_ (h : w.heap[g]? = some (.cells (x0 :: x1 :: l).toArray t (0, 0))) : w.cell? ⟨g, 1, none⟩ = some x1 := (blk_cell h 1).trans rfl
theorem bc2_ (h : w.heap[g]? = some (.cells (x0 :: x1 :: x2 :: l).toArray t (0, 0))) : w.cell? ⟨g, 2, none⟩ = some x2 := (blk_cell h 2).trans rfl
theorem bc3_ (h : w.heap[g]? = some (.cells (x0 :: x1 :: x2 :: x3 :: l).toArray t (0, 0))) : w.cell? ⟨g, 3, none⟩ = some x3 := (blk_cell h 3).trans rfl
theorem bc4_ (h : w.heap[g]? = some (.cells (x0 :: x1 :: x2 :: x3 :: x4 :: l).toArray t (0, 0))) : w.cell? ⟨g, 4, none⟩ = some x4 := (blk_cell h 4).trans rfl
end
theorem bf_ {P Q : Prop} (h : Q) (g : Q → P := by (intro h_; (with_reducible repeat (first | refine blk_drewN ?_ _ | refine blk_drew ?_ | refine blk_alloc ?_ _ | refine blk_far_ ?_ (by assumption))); exact h_)) : P := g h
theorem bp_ {P Q : Prop} (h : Q) (g : Q → P := by (intro h_; (with_reducible repeat (first | refine blk_drewN ?_ _ | refine blk_drew ?_ | refine blk_alloc ?_ _ | (apply blk_far_; (case hp => assumption)) | apply blk_put_)); exact h_; all_goals exact rfl)) : P := g h
theorem kc_ {P Q : Prop} (h : Q) (g : Q → P := by (intro h_; repeat (first | exact h_ | (with_reducible refine Kd.C_alloc ?_ _) | (with_reducible refine Kd.C_drewN ?_ _) | (with_reducible refine Kd.C_drew ?_)))) : P := g h
theorem sm_ {P : Prop} (g : P := by first | rfl | (simp; done) | (simp [*]; done)) : P := g
theorem se_ {P : Prop} (g : P := by first | rfl | (simp [errW_none, errW_some] <;> rfl) | (simp [*, errW_none, errW_some] <;> rfl)) : P := g
theorem dr_ {P : Prop} (g : P := by repeat (first | exact Drawn0.refl _ | apply Drawn0.step)) : P := g
theorem kn_ {P : Prop} (g : P := by first | exact Kd.R_nil _ _ _ _ _ | exact Kd.N_nil _ _ _ _ _ | exact Kd.V_nil _ _ _ _ _ | exact Kd.Q_nil _ _ _ _ _ | exact Kd.S_nil _ _ _ _ _) : P := g
theorem bx_ (N : Tmp) (cs : Array Value) (t : TypeId) (h : ∀ g, g = W.heap.size → ∀ w1, w1.heap[g]? = some (.cells cs t (0, 0)) → Below W.heap.size W w1 → wpList P ops Q rest (a.put o.dst (.pointer (some ⟨g, 0, none⟩))) w1)
    (hd : o.dst = some N := by rfl) (hgd : o.guard = none := by rfl) (hrun : (execOp a.eval o).run P W = .ok (.value (.pointer (some ⟨W.heap.size, 0, none⟩))) (W.alloc (.cells cs t (0, 0))) := by first | (go_simp; done) | (go_simp; rfl)) : wpList P ops Q (o :: rest) a W := box_event hgd hd hrun h
end

section
open Go
variable {w0 w w1 W : World} {α β : Type} {d : Kd α} {d1 d2 d3 d4 : Kd β} {e e1 e2 e3 e4 base b1 b2 b3 b4 : Nat} {ok ok' k1 k2 k3 k4 : Nat → Prop} {u v v1 v2 v3 v4 : Value} {xs : List α} {y1 y2 y3 y4 : List β}
theorem ty_ (h : d.R e w base ok v xs) {g t : Nat} {cells : Array Value} (hb : w.heap[g]? = some (.cells cells t (0, 0))) (ht : ∀ q, q ∈ e :: d.E → q ≠ t := by decide) : d.R e w base (fun k => ok k ∧ k ≠ g) v xs := Kd.R_types h hb ht
theorem rs_ (h : d.R e w0 base ok v xs) (q : d.R e w0 base ok v xs → d.R e W base ok v xs := by (intro h_; (repeat (first | (with_reducible apply Kd.R_alloc) | (with_reducible apply Kd.R_drewN) | (with_reducible apply Kd.R_drew) | ((with_reducible apply Kd.R_far); (case hok => (intro k_ hk_; first | (simp only [hk_, ne_eq, not_false_eq_true, and_self]; done) | (simp [hk_, Value.ownBlock]; done) | (simp only [Value.ownBlock] at hk_ ⊢; simp [hk_]; done) | (simp_all [Value.ownBlock]; done)))))); exact h_)) (hok : ∀ k, ok k → ok' k := by (intro k_ hk_; first | (simp only [hk_, ne_eq, not_false_eq_true, and_self]; done) | (simp [hk_, Value.ownBlock]; done) | (simp only [Value.ownBlock] at hk_ ⊢; simp [hk_]; done) | (simp_all [Value.ownBlock]; done))) : d.R e W base ok' v xs := Kd.R_mono (q h) hok
theorem rq_ (h : d.R e w0 base ok v xs) (q : d.R e w0 base ok v xs → d.R e W base ok v xs := by (intro h_; (repeat (first | (with_reducible apply Kd.R_alloc) | (with_reducible apply Kd.R_drewN) | (with_reducible apply Kd.R_drew) | ((with_reducible apply Kd.R_far); (case hok => (intro k_ hk_; first | (simp only [hk_, ne_eq, not_false_eq_true, and_self]; done) | (simp [hk_, Value.ownBlock]; done) | (simp only [Value.ownBlock] at hk_ ⊢; simp [hk_]; done) | (simp_all [Value.ownBlock]; done)))))); exact h_)) : d.R e W base ok v xs := q h
theorem ra_ (h : d.R e w0 base ok u xs) (hg : W.grownBy w1 v.ownBlock) (hat : v1.ownBlock = v.ownBlock ∨ ∃ b, v1.ownBlock = some b ∧ W.heap.size ≤ b) (q : d.R e w0 base ok u xs → d.R e W base ok u xs := by (intro h_; (repeat (first | (with_reducible apply Kd.R_alloc) | (with_reducible apply Kd.R_drewN) | (with_reducible apply Kd.R_drew) | ((with_reducible apply Kd.R_far); (case hok => (intro k_ hk_; first | (simp only [hk_, ne_eq, not_false_eq_true, and_self]; done) | (simp [hk_, Value.ownBlock]; done) | (simp only [Value.ownBlock] at hk_ ⊢; simp [hk_]; done) | (simp_all [Value.ownBlock]; done)))))); exact h_)) (hne : ∀ k, ok k → ok k ∧ some k ≠ v.ownBlock := by (intro k_ hk_; first | (simp only [hk_, ne_eq, not_false_eq_true, and_self]; done) | (simp [hk_, Value.ownBlock]; done) | (simp only [Value.ownBlock] at hk_ ⊢; simp [hk_]; done) | (simp_all [Value.ownBlock]; done))) : Aside0 (d.R e w1 base (fun k => ok k ∧ some k ≠ v1.ownBlock) u xs) := ⟨Kd.R_after (Kd.R_mono (q h) hne) hg hat⟩
theorem re_ (h : d.R e w0 base ok u xs) (ho : d1.R e1 w1 W.heap.size k1 v1 y1) (hb : Below W.heap.size W w1) (q : d.R e w0 base ok u xs → d.R e W base ok u xs := by (intro h_; (repeat (first | (with_reducible apply Kd.R_alloc) | (with_reducible apply Kd.R_drewN) | (with_reducible apply Kd.R_drew) | ((with_reducible apply Kd.R_far); (case hok => (intro k_ hk_; first | (simp only [hk_, ne_eq, not_false_eq_true, and_self]; done) | (simp [hk_, Value.ownBlock]; done) | (simp only [Value.ownBlock] at hk_ ⊢; simp [hk_]; done) | (simp_all [Value.ownBlock]; done)))))); exact h_)) : Aside0 (d.R e w1 base (fun k => ok k ∧ some k ≠ v1.ownBlock) u xs) := ⟨Kd.R_elder' (q h) (Kd.R_base ho) hb⟩
theorem rb2_ (h : d.R e w0 base ok u xs) (hb : Below W.heap.size W w1) (q : d.R e w0 base ok u xs → d.R e W base ok u xs := by (intro h_; (repeat (first | (with_reducible apply Kd.R_alloc) | (with_reducible apply Kd.R_drewN) | (with_reducible apply Kd.R_drew) | ((with_reducible apply Kd.R_far); (case hok => (intro k_ hk_; first | (simp only [hk_, ne_eq, not_false_eq_true, and_self]; done) | (simp [hk_, Value.ownBlock]; done) | (simp only [Value.ownBlock] at hk_ ⊢; simp [hk_]; done) | (simp_all [Value.ownBlock]; done)))))); exact h_)) : Aside0 (d.R e w1 base ok u xs) := ⟨Kd.R_below (q h) hb⟩
theorem rn_ (h : d.R e w1 W.heap.size ok v xs) (h1 : d1.R e1 w0 b1 k1 v1 y1) (q : d1.R e1 w0 b1 k1 v1 y1 → d1.R e1 W b1 k1 v1 y1 := by (intro h_; (repeat (first | (with_reducible apply Kd.R_alloc) | (with_reducible apply Kd.R_drewN) | (with_reducible apply Kd.R_drew) | ((with_reducible apply Kd.R_far); (case hok => (intro k_ hk_; first | (simp only [hk_, ne_eq, not_false_eq_true, and_self]; done) | (simp [hk_, Value.ownBlock]; done) | (simp only [Value.ownBlock] at hk_ ⊢; simp [hk_]; done) | (simp_all [Value.ownBlock]; done)))))); exact h_)) : d.R e w1 W.heap.size (fun k => ok k ∧ some k ≠ v1.ownBlock) v xs := Kd.R_new' h (Kd.R_lt (q h1))
theorem rl0_ (h : d.R e w1 W.heap.size ok v xs) (hb : Below w.heap.size w W := by (repeat (first | (with_reducible first | exact HB.out | apply below_alloc | apply pw_below_drewN | apply below_drew1 | refine below_set ?_ (Aside0.out (by assumption))) | exact HB.out))) : Aside0 (d.R e w1 w.heap.size ok v xs) := ⟨Kd.R_lower h (below_size hb)⟩
theorem ro1_ (h : d.R e w0 base ok u xs) (hb : Below W.heap.size W w1) (h1 : d1.R e1 w1 W.heap.size k1 v1 y1) (q : d.R e w0 base ok u xs → d.R e W base ok u xs := by (intro h_; (repeat (first | (with_reducible apply Kd.R_alloc) | (with_reducible apply Kd.R_drewN) | (with_reducible apply Kd.R_drew) | ((with_reducible apply Kd.R_far); (case hok => (intro k_ hk_; first | (simp only [hk_, ne_eq, not_false_eq_true, and_self]; done) | (simp [hk_, Value.ownBlock]; done) | (simp only [Value.ownBlock] at hk_ ⊢; simp [hk_]; done) | (simp_all [Value.ownBlock]; done)))))); exact h_)) : Aside0 (d.R e w1 base (fun k => ok k ∧ some k ≠ v1.ownBlock) u xs) :=
  ⟨Kd.R_mono (Kd.R_told (Kd.R_old (q h) hb) (Kd.R_base h1)) (fun _ h_ => h_.1)⟩
theorem ro2_ (h : d.R e w0 base ok u xs) (hb : Below W.heap.size W w1) (h1 : d1.R e1 w1 W.heap.size k1 v1 y1) (h2 : d2.R e2 w1 W.heap.size k2 v2 y2) (q : d.R e w0 base ok u xs → d.R e W base ok u xs := by (intro h_; (repeat (first | (with_reducible apply Kd.R_alloc) | (with_reducible apply Kd.R_drewN) | (with_reducible apply Kd.R_drew) | ((with_reducible apply Kd.R_far); (case hok => (intro k_ hk_; first | (simp only [hk_, ne_eq, not_false_eq_true, and_self]; done) | (simp [hk_, Value.ownBlock]; done) | (simp only [Value.ownBlock] at hk_ ⊢; simp [hk_]; done) | (simp_all [Value.ownBlock]; done)))))); exact h_)) : Aside0 (d.R e w1 base (fun k => (ok k ∧ some k ≠ v1.ownBlock) ∧ some k ≠ v2.ownBlock) u xs) :=
  ⟨Kd.R_mono (Kd.R_told (Kd.R_told (Kd.R_old (q h) hb) (Kd.R_base h1)) (Kd.R_base h2)) (fun _ h_ => h_.1)⟩
theorem ro4_ (h : d.R e w0 base ok u xs) (hb : Below W.heap.size W w1) (h1 : d1.R e1 w1 W.heap.size k1 v1 y1) (h2 : d2.R e2 w1 W.heap.size k2 v2 y2) (h3 : d3.R e3 w1 W.heap.size k3 v3 y3) (h4 : d4.R e4 w1 W.heap.size k4 v4 y4) (q : d.R e w0 base ok u xs → d.R e W base ok u xs := by (intro h_; (repeat (first | (with_reducible apply Kd.R_alloc) | (with_reducible apply Kd.R_drewN) | (with_reducible apply Kd.R_drew) | ((with_reducible apply Kd.R_far); (case hok => (intro k_ hk_; first | (simp only [hk_, ne_eq, not_false_eq_true, and_self]; done) | (simp [hk_, Value.ownBlock]; done) | (simp only [Value.ownBlock] at hk_ ⊢; simp [hk_]; done) | (simp_all [Value.ownBlock]; done)))))); exact h_)) : Aside0 (d.R e w1 base (fun k => (((ok k ∧ some k ≠ v1.ownBlock) ∧ some k ≠ v2.ownBlock) ∧ some k ≠ v3.ownBlock) ∧ some k ≠ v4.ownBlock) u xs) :=
  ⟨Kd.R_mono (Kd.R_told (Kd.R_told (Kd.R_told (Kd.R_told (Kd.R_old (q h) hb) (Kd.R_base h1)) (Kd.R_base h2)) (Kd.R_base h3)) (Kd.R_base h4)) (fun _ h_ => h_.1)⟩
theorem fr_ (h : d.R e w0 base ok v xs) {k : Nat} (hk : W.heap.size ≤ k) (q : d.R e w0 base ok v xs → d.R e W base ok v xs := by (intro h_; (repeat (first | (with_reducible apply Kd.R_alloc) | (with_reducible apply Kd.R_drewN) | (with_reducible apply Kd.R_drew) | ((with_reducible apply Kd.R_far); (case hok => (intro k_ hk_; first | (simp only [hk_, ne_eq, not_false_eq_true, and_self]; done) | (simp [hk_, Value.ownBlock]; done) | (simp only [Value.ownBlock] at hk_ ⊢; simp [hk_]; done) | (simp_all [Value.ownBlock]; done)))))); exact h_)) : some k ≠ v.ownBlock := Kd.fresh' (Kd.R_lt (q h)) k hk
section
variable {g : Nat} {t : TypeId} {x0 x1 x2 x3 x4 : Value} {l : List Value}
theorem c1_ (h : w.heap[g]? = some (.cells (x0 :: l).toArray t (0, 0))) : w.cell? ⟨g, 0, none⟩ = some x0 ∧ w.frozen? ⟨g, 0, none⟩ = false := ⟨bc0_ h, blk_frozen h 0⟩
theorem c2_ (h : w.heap[g]? = some (.cells (x0 :: x1 :: l).toArray t (0, 0))) : w.cell? ⟨g, 0, none⟩ = some x0 ∧ w.cell? ⟨g, 1, none⟩ = some x1 ∧ w.frozen? ⟨g, 0, none⟩ = false ∧ w.frozen? ⟨g, 1, none⟩ = false := ⟨bc0_ h, bc1_ h, blk_frozen h 0, blk_frozen h 1⟩
theorem c3_ (h : w.heap[g]? = some (.cells (x0 :: x1 :: x2 :: l).toArray t (0, 0))) : w.cell? ⟨g, 0, none⟩ = some x0 ∧ w.cell? ⟨g, 1, none⟩ = some x1 ∧ w.cell? ⟨g, 2, none⟩ = some x2 ∧ w.frozen? ⟨g, 0, none⟩ = false ∧ w.frozen? ⟨g, 1, none⟩ = false ∧ w.frozen? ⟨g, 2, none⟩ = false := ⟨bc0_ h, bc1_ h, bc2_ h, blk_frozen h 0, blk_frozen h 1, blk_frozen h 2⟩
theorem c5_ (h : w.heap[g]? = some (.cells (x0 :: x1 :: x2 :: x3 :: x4 :: l).toArray t (0, 0))) : w.cell? ⟨g, 0, none⟩ = some x0 ∧ w.cell? ⟨g, 1, none⟩ = some x1 ∧ w.cell? ⟨g, 2, none⟩ = some x2 ∧ w.cell? ⟨g, 3, none⟩ = some x3 ∧ w.cell? ⟨g, 4, none⟩ = some x4 ∧ w.frozen? ⟨g, 0, none⟩ = false ∧ w.frozen? ⟨g, 1, none⟩ = false ∧ w.frozen? ⟨g, 2, none⟩ = false ∧ w.frozen? ⟨g, 3, none⟩ = false ∧ w.frozen? ⟨g, 4, none⟩ = false :=
  ⟨bc0_ h, bc1_ h, bc2_ h, bc3_ h, bc4_ h, blk_frozen h 0, blk_frozen h 1, blk_frozen h 2, blk_frozen h 3, blk_frozen h 4⟩
end
end

end Go.Proofs.Ytocaneaofdbpoaa.PA
