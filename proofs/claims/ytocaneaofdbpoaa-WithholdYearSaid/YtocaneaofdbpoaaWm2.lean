/- Lists of noughts; what is due of nothing is nothing. -/
import Derived.Test.YtocaneaofdbpoaaWs
set_option linter.unusedVariables false
namespace Go.Proofs.Ytocaneaofdbpoaa.Wd
open Go.RowKit Go.Proofs.Ytocaneaofdbpoaa.PA Go.Proofs.YtocaneaofdbpoaaW.PrintWords Go.Proofs.YtocaneaofdbpoaaW.PrintMore
/-- All of a list is 0. -/
def Nul (l : List Int) : Prop := ∀ x ∈ l, x = 0
theorem nul_app {l m : List Int} (h : Nul l) (g : Nul m) : Nul (l ++ m) := fun x hx => by
  rcases List.mem_append.1 hx with hx | hx
  · exact h x hx
  · exact g x hx
theorem nul_rd {l : List Int} (h : Nul l) {n : Nat} (hn : n < l.length) : rd l (n : Int) = 0 := by
  unfold rd
  rw [Int.toNat_natCast, List.getD_eq_getElem?_getD, List.getElem?_eq_getElem hn]
  exact h _ (List.getElem_mem hn)
theorem nul_map {f : Nat → Int} {n : Nat} (h : ∀ i, i < n → f i = 0) : Nul ((List.range n).map f) := fun x hx => by
  obtain ⟨i, hi, rfl⟩ := List.mem_map.1 hx
  exact h i (List.mem_range.1 hi)
theorem lss_self (l : List Int) : Nul (lss l l) := nul_map (fun i hi => by
  unfold ls
  rw [if_pos (by omega), Int.sub_self, w64 (by omega) (by omega)])
theorem cnt_zero {f : S41} (h : Fok f) : cnt f 0 = 0 := by
  have := h.2.2.2.2
  unfold cnt
  omega
theorem pds_zero {l : List S58} {m : List S41} (h : SR l m) : Nul (pds m 0) := nul_map (fun i hi => by
  unfold pd
  rw [cnt_zero (h.2.2 i hi)]
  omega)
theorem ows_zero {l : List S58} {m : List S41} (h : SR l m) : Nul (ows m 0) := nul_map (fun i hi => by
  unfold ow
  rw [cnt_zero (h.2.2 i hi)]
  omega)
theorem tx_zero {l : List S58} (h : RT l) : tx l 0 l.length = 0 := by
  have b := tx_bd h 0 l.length (Nat.le_refl _)
  rw [cov_top] at b
  omega
theorem tmod_bd (a : Int) : -1099511627776 < Int.tmod a 1099511627776 ∧ Int.tmod a 1099511627776 < 1099511627776 := by
  by_cases h : 0 ≤ a
  · rw [Int.tmod_eq_emod_of_nonneg h]
    omega
  · have e : Int.tmod a 1099511627776 = -(Int.tmod (-a) 1099511627776) := by rw [Int.neg_tmod, Int.neg_neg]
    rw [e, Int.tmod_eq_emod_of_nonneg (by omega)]
    omega
end Go.Proofs.Ytocaneaofdbpoaa.Wd
