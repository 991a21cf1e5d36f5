/- Contracts of the functions of the given program: written by wip/pmprint.py, a program of this session, which runs the print of the kit over altered functions. -/
import Derived.Test.YtdochofgoobicaaProg
import Derived.Below
import Derived.Deep.Draws
import Derived.Deep.AppendLies
import Derived.Maps.AppendAt
import Derived.OwnWalk
import Derived.Laws.BytesArg
import Derived.Laws.MakeOwn
import Derived.Laws.OwnMore
import Derived.Deep.OwnRows
import Derived.Tactics
import Derived.Lib.ConvBytes
import Derived.Laws.Slices
import Derived.WalkKit
import Derived.KernelRfl
import Derived.RowKit3
import Derived.Deep.LoopGhost
import Derived.Deep.QuietTactic
import Derived.BigQuiet
import Derived.WideLaws
import Derived.Deep.DeepCutAuto
import Derived.Deep.CutBlock
import Derived.Deep.RegionHeld3
import Derived.Laws.Rows
import Derived.Lib.AppendStr
import Derived.ArgAppend
import Derived.Laws.IdiomCopy
import Derived.OrdersHeld
import Derived.Laws.BitsLemmas
import Derived.RowKit
import Derived.Test.YtdochofgoobicaaLen64
import Derived.Test.YtdochofgoobicaaWWords
import Derived.Test.YtdochofgoobicaaWLast
import Derived.Test.YtdochofgoobicaaWTab
import Derived.Test.YtdochofgoobicaaWFour
import Derived.Test.YtdochofgoobicaaWQPut
import Derived.Test.YtdochofgoobicaaWApart
import Derived.Test.YtdochofgoobicaaWArr
import Derived.Test.YtdochofgoobicaaWZeros
import Derived.Test.YtdochofgoobicaaWFoot
import Derived.Test.YtdochofgoobicaaWKept
import Derived.Test.YtdochofgoobicaaWShare
import Derived.Test.YtdochofgoobicaaWN
import Derived.Test.YtdochofgoobicaaWFootNe
import Derived.Test.YtdochofgoobicaaWAt
import Derived.Test.YtdochofgoobicaaWEqStruct
import Derived.Test.YtdochofgoobicaaWRepsOne
import Derived.Test.YtdochofgoobicaaWInv
import Derived.Test.YtdochofgoobicaaWInvWords
import Derived.Test.YtdochofgoobicaaWGuard
import Derived.Test.YtdochofgoobicaaWNEv
import Derived.Test.YtdochofgoobicaaWMore
namespace Go.Proofs.Ytdochofgoobicaa.PA
open Go.RowKit Go.Proofs.YtdochofgoobicaaW.PrintWords Go.Proofs.YtdochofgoobicaaW.PrintLast Go.Proofs.YtdochofgoobicaaW.PrintMore
attribute [local go_sem] max2_int min2_int max_two min_two max_three min_three max_four min_four   -- for this text's walks alone
set_option linter.unusedVariables false
set_option linter.unusedSimpArgs false



def errW : Option Int → Value
  | none => .nilIface
  | some c => .iface 0 (.int .i64 c)
theorem errW_none : errW none = .nilIface := rfl
theorem errW_some (c : Int) : errW (some c) = .iface 0 (.int .i64 c) := rfl

theorem info3 : (Try.prog.info? 3).map (fun i => (i.zero, i.size, i.bytes)) = some (some (.int .i64 0), 1, 8) := by kernel_rfl
-- the values' own types

end Go.Proofs.Ytdochofgoobicaa.PA
