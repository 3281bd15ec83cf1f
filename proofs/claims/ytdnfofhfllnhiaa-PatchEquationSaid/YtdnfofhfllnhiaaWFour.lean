-- Out of what print.sh wrote, shortened by shake.py, a program of this session, to the words that this seat's texts use. Not trusted: Lean checks it.
import Derived.Test.YtdnfofhfllnhiaaWTab
/-! ### 56. Four, five, six operations that may come up next, in any order -/
namespace Go.Proofs.YtdnfofhfllnhiaaW.PrintLast
section
variable {P : Program} {ops : Array Oper} {Q : Exit → Act → World → Prop} {md : Region.Mode} {S : World → Prop} {ds : List Nat} {T : Bool × List (List Nat × List Nat)}
end
end Go.Proofs.YtdnfofhfllnhiaaW.PrintLast
