/- CodePuts, in plain numbers: of whatever instruction Put and the reference come to the same word, or both find it wrong. No conditions. -/
import Derived.Test.YtifineoohopchaaCodeLaws
namespace Go.Proofs.Ytifineoohopchaa.Pure
open Go.RowKit Go.Proofs.Ytifineoohopchaa.Q Go.Proofs.YtifineoohopchaaW.PrintWords Go.Proofs.YtifineoohopchaaW.PrintLast Go.Proofs.YtifineoohopchaaW.PrintMore Go.Proofs.Ytifineoohopchaa.Lib Go.Proofs.Ytifineoohopchaa.Code
theorem CodePuts : splicelaw02_CodePuts.Pure := by
  intro x _
  refine ⟨60, ?_⟩
  unfold splicelaw02_CodePuts.f
  rw [put_eq, Option.bind_some, awake02 (by omega), Option.bind_some, if_pos rfl, right_eq, ref_right_eq]
  simp only [Option.bind_some, splicelaw02_CodePuts.j0, ref_right_eq]
  rw [if_neg (by simp)]
  by_cases h : Rt x.f0 x.f1 x.f2 x.f3 x.f4
  · rw [if_pos (by simpa using h), if_pos h, if_pos rfl, ref_put_eq (by omega) h]
    simp
  · rw [if_neg (by simpa using h), if_neg h, if_pos rfl]
    rfl
end Go.Proofs.Ytifineoohopchaa.Pure
