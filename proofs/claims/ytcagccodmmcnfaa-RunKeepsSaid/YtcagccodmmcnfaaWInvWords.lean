-- Out of what print.sh wrote, shortened by shake.py, a program of this session, to the words that this seat's texts use. Not trusted: Lean checks it.
import Derived.Test.YtcagccodmmcnfaaWInv
import Derived.Test.YtcagccodmmcnfaaWFootNe
namespace Go.Proofs.YtcagccodmmcnfaaW.PrintWords
open Go.RowKit
end Go.Proofs.YtcagccodmmcnfaaW.PrintWords
namespace Go.Proofs.YtcagccodmmcnfaaW.PrintLast
section
variable {ops : Array Oper} {a : Act} {o og : Oper} {g : Nat} {t : Tmp} {u : Bool}
end
end Go.Proofs.YtcagccodmmcnfaaW.PrintLast
