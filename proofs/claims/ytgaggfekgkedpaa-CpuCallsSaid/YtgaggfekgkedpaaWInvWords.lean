-- Out of what print.sh wrote, shortened by shake.py, a program of this session, to the words that this seat's texts use. Not trusted: Lean checks it.
import Derived.Test.YtgaggfekgkedpaaWInv
import Derived.Test.YtgaggfekgkedpaaWFootNe
namespace Go.Proofs.YtgaggfekgkedpaaW.PrintWords
open Go.RowKit
end Go.Proofs.YtgaggfekgkedpaaW.PrintWords
namespace Go.Proofs.YtgaggfekgkedpaaW.PrintLast
section
variable {ops : Array Oper} {a : Act} {o og : Oper} {g : Nat} {t : Tmp} {u : Bool}
end
end Go.Proofs.YtgaggfekgkedpaaW.PrintLast
