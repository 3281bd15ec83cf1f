-- Out of what print.sh wrote, shortened by shake.py, a program of this session, to the words that this seat's texts use. Not trusted: Lean checks it.
import Derived.Test.YtdnfofhfllnhiaaWInv
import Derived.Test.YtdnfofhfllnhiaaWFootNe
namespace Go.Proofs.YtdnfofhfllnhiaaW.PrintWords
open Go.RowKit
end Go.Proofs.YtdnfofhfllnhiaaW.PrintWords
namespace Go.Proofs.YtdnfofhfllnhiaaW.PrintLast
section
variable {ops : Array Oper} {a : Act} {o og : Oper} {g : Nat} {t : Tmp} {u : Bool}
end
end Go.Proofs.YtdnfofhfllnhiaaW.PrintLast
