-- Written by drv.py, a program of this session, over the kit's print, out of the translation. Not trusted: Lean checks it.
import Derived.Test.YtcagccodmmcnfaaProg
import Derived.Below
import Derived.Deep.Draws
import Derived.Deep.AppendLies
import Derived.Maps.AppendAt
import Derived.OwnWalk
import Derived.Laws.BytesArg
import Derived.Laws.MakeOwn
import Derived.Laws.OwnMore
import Derived.Deep.OwnRows
import Derived.Tactics
import Derived.Lib.ConvBytes
import Derived.Laws.Slices
import Derived.WalkKit
import Derived.KernelRfl
import Derived.RowKit3
import Derived.Deep.LoopGhost
import Derived.Deep.QuietTactic
import Derived.BigQuiet
import Derived.WideLaws
import Derived.Deep.DeepCutAuto
import Derived.Deep.CutBlock
import Derived.Deep.RegionHeld3
import Derived.Laws.Rows
import Derived.Lib.AppendStr
import Derived.ArgAppend
import Derived.Laws.IdiomCopy
import Derived.OrdersHeld
import Derived.Laws.BitsLemmas
import Derived.RowKit
import Derived.Test.YtcagccodmmcnfaaWWords
import Derived.Test.YtcagccodmmcnfaaWLast
import Derived.Test.YtcagccodmmcnfaaWTab
import Derived.Test.YtcagccodmmcnfaaWFour
import Derived.Test.YtcagccodmmcnfaaWQPut
import Derived.Test.YtcagccodmmcnfaaWApart
import Derived.Test.YtcagccodmmcnfaaWArr
import Derived.Test.YtcagccodmmcnfaaWZeros
import Derived.Test.YtcagccodmmcnfaaWFoot
import Derived.Test.YtcagccodmmcnfaaWKept
import Derived.Test.YtcagccodmmcnfaaWShare
import Derived.Test.YtcagccodmmcnfaaWN
import Derived.Test.YtcagccodmmcnfaaWFootNe
import Derived.Test.YtcagccodmmcnfaaWAt
import Derived.Test.YtcagccodmmcnfaaWEqStruct
import Derived.Test.YtcagccodmmcnfaaWRepsOne
import Derived.Test.YtcagccodmmcnfaaWInv
import Derived.Test.YtcagccodmmcnfaaWInvWords
import Derived.Test.YtcagccodmmcnfaaWGuard
import Derived.Test.YtcagccodmmcnfaaWNEv
import Derived.Test.YtcagccodmmcnfaaWMore
namespace Go.Proofs.Ytcagccodmmcnfaa.Q
open Go.RowKit Go.Proofs.YtcagccodmmcnfaaW.PrintWords Go.Proofs.YtcagccodmmcnfaaW.PrintLast Go.Proofs.YtcagccodmmcnfaaW.PrintMore
attribute [local go_sem] max2_int min2_int max_two min_two max_three min_three max_four min_four   -- for this text's walks alone
set_option linter.unusedVariables false
set_option linter.unusedSimpArgs false



def errW : Option Int → Value
  | none => .nilIface
  | some c => .iface 0 (.int .i64 c)
theorem errW_none : errW none = .nilIface := rfl
theorem errW_some (c : Int) : errW (some c) = .iface 0 (.int .i64 c) := rfl

theorem info3 : (Try.prog.info? 3).map (fun i => (i.zero, i.size, i.bytes)) = some (some (.int .i64 0), 1, 8) := by kernel_rfl
theorem info5 : (Try.prog.info? 5).map (fun i => (i.zero, i.size, i.bytes)) = some (some (.int .u8 0), 1, 1) := by kernel_rfl
-- the values' own types

end Go.Proofs.Ytcagccodmmcnfaa.Q
