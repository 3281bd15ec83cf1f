/- spliceref13.Right: the contract by hand. Own work; a template. -/
import Derived.Test.YtdnfofhfllnhiaaHrt0
import Derived.Test.YtdnfofhfllnhiaaHrg
namespace Go.Proofs.Ytdnfofhfllnhiaa.Q
open Go.RowKit Go.Proofs.YtdnfofhfllnhiaaW.PrintWords Go.Proofs.YtdnfofhfllnhiaaW.PrintLast Go.Proofs.YtdnfofhfllnhiaaW.PrintMore
theorem spliceref13_Right.calls (A0_0 : Option Addr) (c0_0 : Nat) (l0_0 : List S44) (A0_1 : Option Addr) (c0_1 : Nat) (l0_1 : List S55) (a0_2 : Int) (r : Bool) (w : World)
    (hr0_0 : Kd.C k44 w A0_0 l0_0.length l0_0) (hc0_0 : l0_0.length ≤ c0_0) (hr0_1 : Kd.C k55 w A0_1 l0_1.length l0_1) (hc0_1 : l0_1.length ≤ c0_1) (h : spliceref13_Right.f l0_0 l0_1 a0_2 = some r) :
    Calls Try.prog 22 #[.agg #[.slice A0_0 l0_0.length c0_0, .slice A0_1 l0_1.length c0_1, .int .i64 a0_2]] w fun e w' => e = .returned (.bool r) ∧ Below w.heap.size w w' :=
  right_calls spliceref02_Get.calls A0_0 c0_0 l0_0 A0_1 c0_1 l0_1 a0_2 r w hr0_0 hc0_0 hr0_1 hc0_1 h
end Go.Proofs.Ytdnfofhfllnhiaa.Q
