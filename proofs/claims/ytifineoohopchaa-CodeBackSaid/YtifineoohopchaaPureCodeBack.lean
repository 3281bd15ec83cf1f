/- CodeBack, in plain numbers: what is written is read as it was; what is read is written as it stood. No conditions. -/
import Derived.Test.YtifineoohopchaaCodeLaws
namespace Go.Proofs.Ytifineoohopchaa.Pure
open Go.RowKit Go.Proofs.Ytifineoohopchaa.Q Go.Proofs.YtifineoohopchaaW.PrintWords Go.Proofs.YtifineoohopchaaW.PrintLast Go.Proofs.YtifineoohopchaaW.PrintMore Go.Proofs.Ytifineoohopchaa.Lib Go.Proofs.Ytifineoohopchaa.Code
theorem back_j (k : Nat) {w : Int} (hw : U32 w) : splicelaw02_CodeBack.j0 (k + 3) w = some true := by
  simp only [splicelaw02_CodeBack.j0]
  rw [get_eq k hw, Option.bind_some]
  cases h : gW w with
  | none => simp [getR]
  | some i =>
    obtain ⟨hr, he⟩ := gW_some hw h
    simp only [getR]
    rw [if_pos trivial, put_eq, if_pos hr, Option.bind_some, if_pos rfl, if_pos he, right_eq, decide_eq_true hr]
    rfl
theorem CodeBack : splicelaw02_CodeBack.Pure := by
  intro x w hx hw
  refine ⟨60, ?_⟩
  unfold splicelaw02_CodeBack.f
  rw [put_eq, Option.bind_some, awake02 (by omega), Option.bind_some, if_pos rfl]
  by_cases h : Rt x.f0 x.f1 x.f2 x.f3 x.f4
  · obtain ⟨h0, h1, h2⟩ := word_range h
    rw [if_pos h, if_pos rfl, get_eq 58 ⟨h0, h1⟩, gW_word h]
    change (some (x.f0, x.f1, x.f2, x.f3, x.f4, (0 : Int))).bind _ = _
    rw [Option.bind_some, if_pos rfl, if_neg (by simp), if_pos (by rw [w64 (by omega) (by omega)]; exact h2)]
    exact back_j 57 hw
  · rw [if_neg h, if_neg (by decide)]
    exact back_j 57 hw
end Go.Proofs.Ytifineoohopchaa.Pure
