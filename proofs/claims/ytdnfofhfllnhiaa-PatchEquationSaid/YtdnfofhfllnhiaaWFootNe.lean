-- Out of what print.sh wrote, shortened by shake.py, a program of this session, to the words that this seat's texts use. Not trusted: Lean checks it.
import Derived.Test.YtdnfofhfllnhiaaWN
/-! ### 52. A row that stays read whatever happens to a block (a set of blocks) doesn't lie there -/
namespace Go.Proofs.YtdnfofhfllnhiaaW.PrintWords
open Go.RowKit
namespace Kd
section
variable {α : Type} {d : Kd α} {W : World} {g n : Nat} {S ok : Nat → Prop} {A : Option Addr} {ad : Addr} {xs : List α}
end
end Kd
end Go.Proofs.YtdnfofhfllnhiaaW.PrintWords
