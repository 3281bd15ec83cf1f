/- What the laws of the layer 'code' ask: parts that several laws share. Own work; a template. -/
import Derived.Test.YtifineoohopchaaCodeAll
namespace Go.Proofs.Ytifineoohopchaa.Code
open Go.RowKit Go.Proofs.Ytifineoohopchaa.Q Go.Proofs.YtifineoohopchaaW.PrintWords Go.Proofs.YtifineoohopchaaW.PrintLast Go.Proofs.YtifineoohopchaaW.PrintMore Go.Proofs.Ytifineoohopchaa.Lib
theorem awake02 {k : Nat} (hk : 60 ≤ k) : splicelaw02_awake.f k = some true := by
  obtain ⟨k, rfl⟩ : ∃ m, k = m + 2 := ⟨k - 2, by omega⟩
  have h1 : Rt 8 1 0 0 (-1) := (rt_near (by omega)).2 (by omega)
  have h2 : word 8 1 0 0 (-1) = 135331839 := by decide +kernel
  have h3 : gW 335544318 = some (19, 0, 0, 0, -2) := by decide +kernel
  have h4 : gW 4278190080 = none := by decide +kernel
  have h5 : Rt 19 0 0 0 (-2) := (rt_far (by omega)).2 (by omega)
  unfold splicelaw02_awake.f
  rw [put_eq, if_pos h1, get_eq k (by unfold U32; omega), get_eq k (by unfold U32; omega), h3, h4]
  simp only [Option.bind_some, getR]
  rw [if_pos trivial, if_pos h2, if_pos trivial, if_pos (by decide), if_pos trivial, right_eq, decide_eq_true h5]
  rfl
end Go.Proofs.Ytifineoohopchaa.Code
