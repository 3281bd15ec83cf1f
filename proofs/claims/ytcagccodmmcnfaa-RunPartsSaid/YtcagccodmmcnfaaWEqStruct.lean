-- Out of what print.sh wrote, shortened by shake.py, a program of this session, to the words that this seat's texts use. Not trusted: Lean checks it.
import Derived.Test.YtcagccodmmcnfaaWWords
import Derived.Laws.StructEq
/-! ### 53. '==' of structs as_ one Bool -/
namespace Go.Proofs.YtcagccodmmcnfaaW.PrintWords
open Go.RowKit
section
variable {P : Program} {d : Nat} {xs ys : Array Value} {f : Field} {fs : List Field} {a b : Value} {r s : Bool} {w : World}
end
end Go.Proofs.YtcagccodmmcnfaaW.PrintWords
