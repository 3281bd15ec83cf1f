-- Written by drv.py, a program of this session, over the kit's print, out of the translation. Not trusted: Lean checks it.
import Derived.Test.YtgaggfekgkedpaaProg
import Derived.Below
import Derived.Deep.Draws
import Derived.Deep.AppendLies
import Derived.Maps.AppendAt
import Derived.OwnWalk
import Derived.Laws.BytesArg
import Derived.Laws.MakeOwn
import Derived.Laws.OwnMore
import Derived.Deep.OwnRows
import Derived.Tactics
import Derived.Lib.ConvBytes
import Derived.Laws.Slices
import Derived.WalkKit
import Derived.KernelRfl
import Derived.RowKit3
import Derived.Deep.LoopGhost
import Derived.Deep.QuietTactic
import Derived.BigQuiet
import Derived.WideLaws
import Derived.Deep.DeepCutAuto
import Derived.Deep.CutBlock
import Derived.Deep.RegionHeld3
import Derived.Laws.Rows
import Derived.Lib.AppendStr
import Derived.ArgAppend
import Derived.Laws.IdiomCopy
import Derived.OrdersHeld
import Derived.Laws.BitsLemmas
import Derived.RowKit
import Derived.Test.YtgaggfekgkedpaaWWords
import Derived.Test.YtgaggfekgkedpaaWLast
import Derived.Test.YtgaggfekgkedpaaWTab
import Derived.Test.YtgaggfekgkedpaaWFour
import Derived.Test.YtgaggfekgkedpaaWQPut
import Derived.Test.YtgaggfekgkedpaaWApart
import Derived.Test.YtgaggfekgkedpaaWArr
import Derived.Test.YtgaggfekgkedpaaWZeros
import Derived.Test.YtgaggfekgkedpaaWFoot
import Derived.Test.YtgaggfekgkedpaaWKept
import Derived.Test.YtgaggfekgkedpaaWShare
import Derived.Test.YtgaggfekgkedpaaWN
import Derived.Test.YtgaggfekgkedpaaWFootNe
import Derived.Test.YtgaggfekgkedpaaWAt
import Derived.Test.YtgaggfekgkedpaaWEqStruct
import Derived.Test.YtgaggfekgkedpaaWRepsOne
import Derived.Test.YtgaggfekgkedpaaWInv
import Derived.Test.YtgaggfekgkedpaaWInvWords
import Derived.Test.YtgaggfekgkedpaaWGuard
import Derived.Test.YtgaggfekgkedpaaWNEv
import Derived.Test.YtgaggfekgkedpaaWMore
namespace Go.Proofs.Ytgaggfekgkedpaa.Q
open Go.RowKit Go.Proofs.YtgaggfekgkedpaaW.PrintWords Go.Proofs.YtgaggfekgkedpaaW.PrintLast Go.Proofs.YtgaggfekgkedpaaW.PrintMore
attribute [local go_sem] max2_int min2_int max_two min_two max_three min_three max_four min_four   -- for this text's walks alone
set_option linter.unusedVariables false
set_option linter.unusedSimpArgs false



def errW : Option Int → Value
  | none => .nilIface
  | some c => .iface 0 (.int .i64 c)
theorem errW_none : errW none = .nilIface := rfl
theorem errW_some (c : Int) : errW (some c) = .iface 0 (.int .i64 c) := rfl

theorem info5 : (Try.prog.info? 5).map (fun i => (i.zero, i.size, i.bytes)) = some (some (.int .u8 0), 1, 1) := by kernel_rfl
-- the values' own types

end Go.Proofs.Ytgaggfekgkedpaa.Q
