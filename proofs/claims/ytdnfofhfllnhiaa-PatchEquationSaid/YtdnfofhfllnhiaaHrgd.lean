/- The reference's Get, as the contract by hand tells it. Own work; a template. -/
import Derived.Test.YtdnfofhfllnhiaaQ0
import Derived.Test.YtdnfofhfllnhiaaCodeDefs
namespace Go.Proofs.Ytdnfofhfllnhiaa.Q
def spliceref02_Get.f (a0 : Int) : Option (Int × Int × Int × Int × Int × Bool) := if 0 ≤ a0 ∧ a0 ≤ 4294967295 then some (Code.getB (Code.gW a0)) else none
end Go.Proofs.Ytdnfofhfllnhiaa.Q
