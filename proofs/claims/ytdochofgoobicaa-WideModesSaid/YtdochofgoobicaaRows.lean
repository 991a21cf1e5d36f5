/-
  No cell of these rows narrows 'for every input' (looked for: loops, veiled, ifaces, maps, wideKeys, modest, calm, conditions, laid).
  DERIVED. THE GIVEN ROWS OF THIS SEAT. 8 by the template 'for every input the law returns true; each argument reads behind the call as it read before'; 0 by the template 'total and deterministic' (their statements: YtdochofgoobicaaTotals.lean).
  GIVEN WITH THE SEED: the statements are not yours to turn. If you find one false, say at which input.
  Laid BY PROGRAM, IN A SANDBOX (cutbox-rows.mjs): the forced cells as the released guide's own fill.sh prints them over the translation bbb13038d06333f4… (all of the seat's roots in one cut). By AI agents, Wed Nov 11 2026. No macro, syntax, notation, axiom, sorry.
-/
import Derived.Test.YtdochofgoobicaaChecked
import GoSem.Claim
import GoSem.ClaimJoined
import GoSem.ClaimMapViews
import Derived.JoinedTies
import Derived.KernelRfl
namespace Go.Proofs.Ytdochofgoobicaa
/- THE CELL 'sum', in the pinned program and in every row, IS THE sha256 OF THE DUMP (.gsa) THAT YtdochofgoobicaaProg.lean LOADS. Nothing in Lean hashes anything: it is a label: what it is worth is what the hold of that sum in a sandbox is worth. -/
noncomputable def Try.pinned : Pinned := { name := "ytdochofgoobicaa", sum := "bbb13038d06333f4e7563fab8fb0b323d4f3907560c52c877c43d891ed00d128", checked := Try.checked }
namespace Rows
def none {H : Type} : Left H := { results := [], args := [] }

/-- 'paymasterlaw02.WideExact': WHATEVER THE INPUT: true; the input reads as it did. -/
def wideExactSpec : ChangeSpec := { name := "wideExact", fn := fun _ => fun
  | [d1, d2, d3, d4] => { results := [.lit (.bool true)], args := [d1, d2, d3, d4] }
  | _ => none }
def wideExactRow : OpenClaim := { program := "ytdochofgoobicaa", sum := "bbb13038d06333f4e7563fab8fb0b323d4f3907560c52c877c43d891ed00d128", func := "paymaster/paymasterlaw02.WideExact", spec := "wideExact", named := ["math/bits.divideError", "math/bits.overflowError"], apart := false }
def WideExactSaid : Prop := wideExactRow.holds Try.pinned (OpenSpec.ofChange wideExactSpec)

/-- ITS FALSE NEIGHBOUR: 'it returns false'. Refute it at one input. -/
def wideExactWrong : ChangeSpec := { name := "wideExact", fn := fun _ => fun
  | [d1, d2, d3, d4] => { results := [.lit (.bool false)], args := [d1, d2, d3, d4] }
  | _ => none }
def WideExactWrongFalsely : Prop := wideExactRow.holds Try.pinned (OpenSpec.ofChange wideExactWrong)

/-- 'paymasterlaw02.WideCmp': WHATEVER THE INPUT: true; the input reads as it did. -/
def wideCmpSpec : ChangeSpec := { name := "wideCmp", fn := fun _ => fun
  | [d1, d2, d3, d4] => { results := [.lit (.bool true)], args := [d1, d2, d3, d4] }
  | _ => none }
def wideCmpRow : OpenClaim := { program := "ytdochofgoobicaa", sum := "bbb13038d06333f4e7563fab8fb0b323d4f3907560c52c877c43d891ed00d128", func := "paymaster/paymasterlaw02.WideCmp", spec := "wideCmp", named := ["math/bits.divideError", "math/bits.overflowError"], apart := false }
def WideCmpSaid : Prop := wideCmpRow.holds Try.pinned (OpenSpec.ofChange wideCmpSpec)

/-- ITS FALSE NEIGHBOUR: 'it returns false'. Refute it at one input. -/
def wideCmpWrong : ChangeSpec := { name := "wideCmp", fn := fun _ => fun
  | [d1, d2, d3, d4] => { results := [.lit (.bool false)], args := [d1, d2, d3, d4] }
  | _ => none }
def WideCmpWrongFalsely : Prop := wideCmpRow.holds Try.pinned (OpenSpec.ofChange wideCmpWrong)

/-- 'paymasterlaw02.WideModes': WHATEVER THE INPUT: true; the input reads as it did. -/
def wideModesSpec : ChangeSpec := { name := "wideModes", fn := fun _ => fun
  | [d1, d2, d3] => { results := [.lit (.bool true)], args := [d1, d2, d3] }
  | _ => none }
def wideModesRow : OpenClaim := { program := "ytdochofgoobicaa", sum := "bbb13038d06333f4e7563fab8fb0b323d4f3907560c52c877c43d891ed00d128", func := "paymaster/paymasterlaw02.WideModes", spec := "wideModes", named := ["math/bits.divideError", "math/bits.overflowError"], apart := false }
def WideModesSaid : Prop := wideModesRow.holds Try.pinned (OpenSpec.ofChange wideModesSpec)

/-- ITS FALSE NEIGHBOUR: 'it returns false'. Refute it at one input. -/
def wideModesWrong : ChangeSpec := { name := "wideModes", fn := fun _ => fun
  | [d1, d2, d3] => { results := [.lit (.bool false)], args := [d1, d2, d3] }
  | _ => none }
def WideModesWrongFalsely : Prop := wideModesRow.holds Try.pinned (OpenSpec.ofChange wideModesWrong)

/-- 'paymasterlaw02.WideUnits': WHATEVER THE INPUT: true; the input reads as it did. -/
def wideUnitsSpec : ChangeSpec := { name := "wideUnits", fn := fun _ => fun
  | [d1, d2, d3, d4] => { results := [.lit (.bool true)], args := [d1, d2, d3, d4] }
  | _ => none }
def wideUnitsRow : OpenClaim := { program := "ytdochofgoobicaa", sum := "bbb13038d06333f4e7563fab8fb0b323d4f3907560c52c877c43d891ed00d128", func := "paymaster/paymasterlaw02.WideUnits", spec := "wideUnits", named := ["math/bits.divideError", "math/bits.overflowError"], apart := false }
def WideUnitsSaid : Prop := wideUnitsRow.holds Try.pinned (OpenSpec.ofChange wideUnitsSpec)

/-- ITS FALSE NEIGHBOUR: 'it returns false'. Refute it at one input. -/
def wideUnitsWrong : ChangeSpec := { name := "wideUnits", fn := fun _ => fun
  | [d1, d2, d3, d4] => { results := [.lit (.bool false)], args := [d1, d2, d3, d4] }
  | _ => none }
def WideUnitsWrongFalsely : Prop := wideUnitsRow.holds Try.pinned (OpenSpec.ofChange wideUnitsWrong)

/-- 'paymasterlaw02.WideParts': WHATEVER THE INPUT: true; the input reads as it did. -/
def widePartsSpec : ChangeSpec := { name := "wideParts", fn := fun _ => fun
  | [d1, d2, d3] => { results := [.lit (.bool true)], args := [d1, d2, d3] }
  | _ => none }
def widePartsRow : OpenClaim := { program := "ytdochofgoobicaa", sum := "bbb13038d06333f4e7563fab8fb0b323d4f3907560c52c877c43d891ed00d128", func := "paymaster/paymasterlaw02.WideParts", spec := "wideParts", named := ["math/bits.divideError", "math/bits.overflowError"], apart := false }
def WidePartsSaid : Prop := widePartsRow.holds Try.pinned (OpenSpec.ofChange widePartsSpec)

/-- ITS FALSE NEIGHBOUR: 'it returns false'. Refute it at one input. -/
def widePartsWrong : ChangeSpec := { name := "wideParts", fn := fun _ => fun
  | [d1, d2, d3] => { results := [.lit (.bool false)], args := [d1, d2, d3] }
  | _ => none }
def WidePartsWrongFalsely : Prop := widePartsRow.holds Try.pinned (OpenSpec.ofChange widePartsWrong)

/-- 'paymasterlaw02.WideTurns': WHATEVER THE INPUT: true; the input reads as it did. -/
def wideTurnsSpec : ChangeSpec := { name := "wideTurns", fn := fun _ => fun
  | [d1, d2, d3, d4] => { results := [.lit (.bool true)], args := [d1, d2, d3, d4] }
  | _ => none }
def wideTurnsRow : OpenClaim := { program := "ytdochofgoobicaa", sum := "bbb13038d06333f4e7563fab8fb0b323d4f3907560c52c877c43d891ed00d128", func := "paymaster/paymasterlaw02.WideTurns", spec := "wideTurns", named := ["math/bits.divideError", "math/bits.overflowError"], apart := false }
def WideTurnsSaid : Prop := wideTurnsRow.holds Try.pinned (OpenSpec.ofChange wideTurnsSpec)

/-- ITS FALSE NEIGHBOUR: 'it returns false'. Refute it at one input. -/
def wideTurnsWrong : ChangeSpec := { name := "wideTurns", fn := fun _ => fun
  | [d1, d2, d3, d4] => { results := [.lit (.bool false)], args := [d1, d2, d3, d4] }
  | _ => none }
def WideTurnsWrongFalsely : Prop := wideTurnsRow.holds Try.pinned (OpenSpec.ofChange wideTurnsWrong)

/-- 'paymasterlaw02.WideLines': WHATEVER THE INPUT: true; the input reads as it did. -/
def wideLinesSpec : ChangeSpec := { name := "wideLines", fn := fun _ => fun
  | [d1, d2, d3, d4, d5] => { results := [.lit (.bool true)], args := [d1, d2, d3, d4, d5] }
  | _ => none }
def wideLinesRow : OpenClaim := { program := "ytdochofgoobicaa", sum := "bbb13038d06333f4e7563fab8fb0b323d4f3907560c52c877c43d891ed00d128", func := "paymaster/paymasterlaw02.WideLines", spec := "wideLines", named := ["math/bits.divideError", "math/bits.overflowError"], apart := false }
def WideLinesSaid : Prop := wideLinesRow.holds Try.pinned (OpenSpec.ofChange wideLinesSpec)

/-- ITS FALSE NEIGHBOUR: 'it returns false'. Refute it at one input. -/
def wideLinesWrong : ChangeSpec := { name := "wideLines", fn := fun _ => fun
  | [d1, d2, d3, d4, d5] => { results := [.lit (.bool false)], args := [d1, d2, d3, d4, d5] }
  | _ => none }
def WideLinesWrongFalsely : Prop := wideLinesRow.holds Try.pinned (OpenSpec.ofChange wideLinesWrong)

/-- 'paymasterlaw02.WideAdd': WHATEVER THE INPUT: true; the input reads as it did. -/
def wideAddSpec : ChangeSpec := { name := "wideAdd", fn := fun _ => fun
  | [d1, d2, d3] => { results := [.lit (.bool true)], args := [d1, d2, d3] }
  | _ => none }
def wideAddRow : OpenClaim := { program := "ytdochofgoobicaa", sum := "bbb13038d06333f4e7563fab8fb0b323d4f3907560c52c877c43d891ed00d128", func := "paymaster/paymasterlaw02.WideAdd", spec := "wideAdd", named := ["math/bits.divideError", "math/bits.overflowError"], apart := false }
def WideAddSaid : Prop := wideAddRow.holds Try.pinned (OpenSpec.ofChange wideAddSpec)

/-- ITS FALSE NEIGHBOUR: 'it returns false'. Refute it at one input. -/
def wideAddWrong : ChangeSpec := { name := "wideAdd", fn := fun _ => fun
  | [d1, d2, d3] => { results := [.lit (.bool false)], args := [d1, d2, d3] }
  | _ => none }
def WideAddWrongFalsely : Prop := wideAddRow.holds Try.pinned (OpenSpec.ofChange wideAddWrong)

/- THE SECOND FORM. 'bulk': how many values and letters a reading holds, each counted each time it is reached (what is shared counts as often as it is met; a slice's spare places count too). A statement '..UptoSaid' is the law's where the arguments, and the package variables that the reading takes, are together of bulk at most 1048576: NARROWER than '..Said'. Prove '..Said' where nothing that the law and all that it calls make is longer than what came in: it says more and counts as full. Else prove '..UptoSaid'. A law counts once. -/
mutual
def uptoBulk {H : Type} : DataW H → Nat
  | .lit (.string bytes) => bytes.length + 1
  | .lit _ => 1
  | .nil => 1
  | .ptr d => uptoBulk d + 1
  | .slice elems spare => uptoBulkAll elems + uptoBulkAll spare + 1
  | .agg parts => uptoBulkAll parts + 1
  | .iface _ d => uptoBulk d + 1
  | .map entries => uptoBulkEntries entries + 1
  | .held _ => 1
def uptoBulkAll {H : Type} : List (DataW H) → Nat
  | [] => 0
  | d :: r => uptoBulk d + uptoBulkAll r
def uptoBulkEntries {H : Type} : List (Lit × DataW H) → Nat
  | [] => 0
  | x :: r => uptoBulkEntry x + uptoBulkEntries r
def uptoBulkEntry {H : Type} : Lit × DataW H → Nat
  | (.string bytes, d) => bytes.length + uptoBulk d + 1
  | (_, d) => uptoBulk d + 1
 end
def uptoSmall : (H : Type) → List (DataW H) → Bool := fun _ ds => decide (uptoBulkAll ds ≤ 1048576)
def OpenSpec.upto (s : _root_.Go.ChangeSpec) : _root_.Go.OpenSpec := { _root_.Go.OpenSpec.ofChange s with cond := some uptoSmall }

/-- 'paymasterlaw02.WideExact', WHERE WHAT IT READS IS OF BULK AT MOST 1048576: true; the input reads as it did. -/
def wideExactUptoRow : OpenClaim := { program := "ytdochofgoobicaa", sum := "bbb13038d06333f4e7563fab8fb0b323d4f3907560c52c877c43d891ed00d128", func := "paymaster/paymasterlaw02.WideExact", spec := "wideExact", named := ["math/bits.divideError", "math/bits.overflowError"], apart := false, narrowed := true }
def WideExactUptoSaid : Prop := wideExactUptoRow.holds Try.pinned (OpenSpec.upto wideExactSpec)

/-- 'paymasterlaw02.WideCmp', WHERE WHAT IT READS IS OF BULK AT MOST 1048576: true; the input reads as it did. -/
def wideCmpUptoRow : OpenClaim := { program := "ytdochofgoobicaa", sum := "bbb13038d06333f4e7563fab8fb0b323d4f3907560c52c877c43d891ed00d128", func := "paymaster/paymasterlaw02.WideCmp", spec := "wideCmp", named := ["math/bits.divideError", "math/bits.overflowError"], apart := false, narrowed := true }
def WideCmpUptoSaid : Prop := wideCmpUptoRow.holds Try.pinned (OpenSpec.upto wideCmpSpec)

/-- 'paymasterlaw02.WideModes', WHERE WHAT IT READS IS OF BULK AT MOST 1048576: true; the input reads as it did. -/
def wideModesUptoRow : OpenClaim := { program := "ytdochofgoobicaa", sum := "bbb13038d06333f4e7563fab8fb0b323d4f3907560c52c877c43d891ed00d128", func := "paymaster/paymasterlaw02.WideModes", spec := "wideModes", named := ["math/bits.divideError", "math/bits.overflowError"], apart := false, narrowed := true }
def WideModesUptoSaid : Prop := wideModesUptoRow.holds Try.pinned (OpenSpec.upto wideModesSpec)

/-- 'paymasterlaw02.WideUnits', WHERE WHAT IT READS IS OF BULK AT MOST 1048576: true; the input reads as it did. -/
def wideUnitsUptoRow : OpenClaim := { program := "ytdochofgoobicaa", sum := "bbb13038d06333f4e7563fab8fb0b323d4f3907560c52c877c43d891ed00d128", func := "paymaster/paymasterlaw02.WideUnits", spec := "wideUnits", named := ["math/bits.divideError", "math/bits.overflowError"], apart := false, narrowed := true }
def WideUnitsUptoSaid : Prop := wideUnitsUptoRow.holds Try.pinned (OpenSpec.upto wideUnitsSpec)

/-- 'paymasterlaw02.WideParts', WHERE WHAT IT READS IS OF BULK AT MOST 1048576: true; the input reads as it did. -/
def widePartsUptoRow : OpenClaim := { program := "ytdochofgoobicaa", sum := "bbb13038d06333f4e7563fab8fb0b323d4f3907560c52c877c43d891ed00d128", func := "paymaster/paymasterlaw02.WideParts", spec := "wideParts", named := ["math/bits.divideError", "math/bits.overflowError"], apart := false, narrowed := true }
def WidePartsUptoSaid : Prop := widePartsUptoRow.holds Try.pinned (OpenSpec.upto widePartsSpec)

/-- 'paymasterlaw02.WideTurns', WHERE WHAT IT READS IS OF BULK AT MOST 1048576: true; the input reads as it did. -/
def wideTurnsUptoRow : OpenClaim := { program := "ytdochofgoobicaa", sum := "bbb13038d06333f4e7563fab8fb0b323d4f3907560c52c877c43d891ed00d128", func := "paymaster/paymasterlaw02.WideTurns", spec := "wideTurns", named := ["math/bits.divideError", "math/bits.overflowError"], apart := false, narrowed := true }
def WideTurnsUptoSaid : Prop := wideTurnsUptoRow.holds Try.pinned (OpenSpec.upto wideTurnsSpec)

/-- 'paymasterlaw02.WideLines', WHERE WHAT IT READS IS OF BULK AT MOST 1048576: true; the input reads as it did. -/
def wideLinesUptoRow : OpenClaim := { program := "ytdochofgoobicaa", sum := "bbb13038d06333f4e7563fab8fb0b323d4f3907560c52c877c43d891ed00d128", func := "paymaster/paymasterlaw02.WideLines", spec := "wideLines", named := ["math/bits.divideError", "math/bits.overflowError"], apart := false, narrowed := true }
def WideLinesUptoSaid : Prop := wideLinesUptoRow.holds Try.pinned (OpenSpec.upto wideLinesSpec)

/-- 'paymasterlaw02.WideAdd', WHERE WHAT IT READS IS OF BULK AT MOST 1048576: true; the input reads as it did. -/
def wideAddUptoRow : OpenClaim := { program := "ytdochofgoobicaa", sum := "bbb13038d06333f4e7563fab8fb0b323d4f3907560c52c877c43d891ed00d128", func := "paymaster/paymasterlaw02.WideAdd", spec := "wideAdd", named := ["math/bits.divideError", "math/bits.overflowError"], apart := false, narrowed := true }
def WideAddUptoSaid : Prop := wideAddUptoRow.holds Try.pinned (OpenSpec.upto wideAddSpec)

end Rows
end Go.Proofs.Ytdochofgoobicaa
