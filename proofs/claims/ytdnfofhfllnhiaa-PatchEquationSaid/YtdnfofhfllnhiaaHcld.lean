/- slices.Clone: what it comes to. Own work; a template. -/
import Derived.Test.YtdnfofhfllnhiaaQ0
namespace Go.Proofs.Ytdnfofhfllnhiaa.Q
def slices_Clone_uint32_uint32.f (l0 : List Int) : Option (List Int) := if l0.length < 17592186044416 then some l0 else none
end Go.Proofs.Ytdnfofhfllnhiaa.Q
