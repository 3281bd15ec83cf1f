/- CodeAlls, in plain numbers: of whatever words All and the reference come to the same instructions, or to the same first word that is none. No conditions. -/
import Derived.Test.YtifineoohopchaaCodeLaws
namespace Go.Proofs.Ytifineoohopchaa.Pure
open Go.RowKit Go.Proofs.Ytifineoohopchaa.Q Go.Proofs.YtifineoohopchaaW.PrintWords Go.Proofs.YtifineoohopchaaW.PrintLast Go.Proofs.YtifineoohopchaaW.PrintMore Go.Proofs.Ytifineoohopchaa.Lib Go.Proofs.Ytifineoohopchaa.Code
theorem CodeAlls : splicelaw02_CodeAlls.Pure := by
  intro l hl
  refine ⟨500, ?_⟩
  unfold splicelaw02_CodeAlls.f
  rw [awake02 (by omega), Option.bind_some, if_pos rfl]
  simp only [splicelaw02_CodeAlls.j0]
  by_cases h : (l.length : Int) > 300
  · rw [decide_eq_true h, if_pos rfl, awake02 (by omega)]
    rfl
  · have := allW_len l [] 0
    simp at this
    rw [decide_eq_false h, if_neg (by decide), all_eq (by omega) hl.2 (by omega), ref_all_eq (by omega) hl.2 (by omega)]
    simp only [Option.bind_some]
    rw [if_pos trivial, same_refl (by omega) (by omega)]
    rfl
end Go.Proofs.Ytifineoohopchaa.Pure
