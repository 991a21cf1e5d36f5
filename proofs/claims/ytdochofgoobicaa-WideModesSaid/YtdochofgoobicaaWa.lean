/- The fixed answer of the stage of wide is true. -/
import Derived.Test.YtdochofgoobicaaWm
namespace Go.Proofs.Ytdochofgoobicaa.Wd
open Go.RowKit Go.Proofs.Ytdochofgoobicaa.PA Go.Proofs.YtdochofgoobicaaW.PrintWords Go.Proofs.YtdochofgoobicaaW.PrintMore
theorem awake_eq {k : Nat} (hk : 24 ≤ k) : paymasterlaw02_awake.f k = some true := by
  have e1 : md 5 1 2 0 = (2, 0) := by decide +kernel
  have e2 : md (-5) 1 2 2 = (-3, 0) := by decide +kernel
  have e3 : md 5 1 2 3 = (2, 0) := by decide +kernel
  have e4 : sg (9223372036854775807 * 9223372036854775807) (-9223372036854775807 * -9223372036854775807) = 0 := by decide +kernel
  unfold paymasterlaw02_awake.f
  rw [muldiv_eq (by omega) (by omega) (by omega) (by omega) (by omega) (by omega) (by omega), muldiv_eq (by omega) (by omega) (by omega) (by omega) (by omega) (by omega) (by omega), muldiv_eq (by omega) (by omega) (by omega) (by omega) (by omega) (by omega) (by omega), e1, e2, e3, cmp_eq (by omega) (by omega) (by omega) (by omega) (by omega) (by omega) (by omega) (by omega) (by omega), e4]
  rfl
theorem wf_of {k : IntKind} {a : Int} (h : (Lit.int k a).wf = true) : k.min ≤ a ∧ a ≤ k.max := by simpa [Lit.wf] using h
theorem wf_i64 {a : Int} (h : (Lit.int .i64 a).wf = true) : -9223372036854775808 ≤ a ∧ a ≤ 9223372036854775807 := wf_of h
theorem wf_u64 {a : Int} (h : (Lit.int .u64 a).wf = true) : 0 ≤ a ∧ a ≤ 18446744073709551615 := wf_of h
theorem wf_u8 {a : Int} (h : (Lit.int .u8 a).wf = true) : 0 ≤ a ∧ a ≤ 255 := wf_of h
end Go.Proofs.Ytdochofgoobicaa.Wd
