/- slices.Clone: what it comes to. Own work; a template. -/
import Derived.Test.YtcagccodmmcnfaaQ0
namespace Go.Proofs.Ytcagccodmmcnfaa.Q
def slices_Clone_byte_byte.f (l0 : List Int) : Option (List Int) := if l0.length < 17592186044416 then some l0 else none
end Go.Proofs.Ytcagccodmmcnfaa.Q
