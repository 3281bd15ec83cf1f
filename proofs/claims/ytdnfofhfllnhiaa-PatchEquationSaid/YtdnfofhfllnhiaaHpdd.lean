/- patch.Data: what it comes to. Own work; a template. -/
import Derived.Test.YtdnfofhfllnhiaaQ0
import Derived.Laws.CopyOwn
namespace Go.Proofs.Ytdnfofhfllnhiaa.Q
open Go.RowKit Go.Proofs.YtdnfofhfllnhiaaW.PrintWords Go.Proofs.YtdnfofhfllnhiaaW.PrintLast Go.Proofs.YtdnfofhfllnhiaaW.PrintMore
set_option linter.unusedVariables false
set_option linter.unusedSimpArgs false
/-- What a relocation comes to. -/
def valD (x y : Int) : Int := wrap64 (wrap64 (wrap64 (65536 + x) % 4294967296) + y)
/-- The relocations of data, one behind the other. -/
def dataB (l1 : List Int) : List S46 → List Int → Option (List Int × Int)
  | [], out => some (out, 0)
  | r :: rs, out => if 0 ≤ r.f2 ∧ r.f2 < (l1.length : Int) then
      (if 0 ≤ valD (rd l1 r.f2) r.f3 ∧ valD (rd l1 r.f2) r.f3 < 4294967296 then
        (if 0 ≤ r.f0 ∧ r.f0 + 4 ≤ (out.length : Int) then dataB l1 rs (splice out r.f0.toNat [valD (rd l1 r.f2) r.f3 % 256, valD (rd l1 r.f2) r.f3 / 256 % 256, valD (rd l1 r.f2) r.f3 / 65536 % 256, valD (rd l1 r.f2) r.f3 / 16777216 % 256]) else none)
      else some ([], 7)) else none
def dataS (d : S55) : Prop := 0 ≤ d.f2 ∧ d.f2 ≤ 1099511627776 ∧ (d.f3.length : Int) ≤ d.f2 ∧ d.f4.length ≤ 35184372088832
instance (d : S55) : Decidable (dataS d) := by unfold dataS; infer_instance
def patch_Data.f (l0_0 : List S44) (l0_1 : List S55) (a0_2 : Int) (l1_0 : List Int) (l1_1 : List Int) (a1_2 : Int) (a1_3 : Int) (a1_4 : Int) (a2 : Int) : Option (List Int × Int) :=
  if 0 ≤ a2 ∧ a2 < (l0_1.length : Int) ∧ dataS (rd_T55 l0_1 a2) then dataB l1_1 (rd_T55 l0_1 a2).f4 ((rd_T55 l0_1 a2).f3 ++ List.replicate ((rd_T55 l0_1 a2).f2.toNat - (rd_T55 l0_1 a2).f3.length) 0) else none
end Go.Proofs.Ytdnfofhfllnhiaa.Q
