/- CodeGets, in plain numbers: of whatever word Get and the reference come to the same instruction, or both to none. No conditions. -/
import Derived.Test.YtifineoohopchaaCodeLaws
namespace Go.Proofs.Ytifineoohopchaa.Pure
open Go.RowKit Go.Proofs.Ytifineoohopchaa.Q Go.Proofs.YtifineoohopchaaW.PrintWords Go.Proofs.YtifineoohopchaaW.PrintLast Go.Proofs.YtifineoohopchaaW.PrintMore Go.Proofs.Ytifineoohopchaa.Lib Go.Proofs.Ytifineoohopchaa.Code
theorem CodeGets : splicelaw02_CodeGets.Pure := by
  intro w hw
  refine ⟨60, ?_⟩
  unfold splicelaw02_CodeGets.f
  rw [get_eq 58 hw, ref_get_eq hw, awake02 (by omega)]
  simp only [Option.bind_some]
  rw [if_pos trivial]
  cases h : gW w with
  | none => simp [getR, getB]
  | some i => simp [getR, getB]
end Go.Proofs.Ytifineoohopchaa.Pure
