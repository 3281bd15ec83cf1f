/- CodeApart, in plain numbers: two right instructions have the same word only if they are alike. No conditions. -/
import Derived.Test.YtifineoohopchaaCodeLaws
namespace Go.Proofs.Ytifineoohopchaa.Pure
open Go.RowKit Go.Proofs.Ytifineoohopchaa.Q Go.Proofs.YtifineoohopchaaW.PrintWords Go.Proofs.YtifineoohopchaaW.PrintLast Go.Proofs.YtifineoohopchaaW.PrintMore Go.Proofs.Ytifineoohopchaa.Lib Go.Proofs.Ytifineoohopchaa.Code
theorem CodeApart : splicelaw02_CodeApart.Pure := by
  intro x y _ _
  refine ⟨60, ?_⟩
  unfold splicelaw02_CodeApart.f
  rw [put_eq, Option.bind_some, put_eq, Option.bind_some, awake02 (by omega)]
  simp only [Option.bind_some]
  rw [if_pos trivial]
  by_cases h : Rt x.f0 x.f1 x.f2 x.f3 x.f4
  · rw [if_pos h, if_pos rfl]
    by_cases h' : Rt y.f0 y.f1 y.f2 y.f3 y.f4
    · rw [if_pos h', if_pos rfl]
      have e := gW_word h
      have e' := gW_word h'
      by_cases q : word x.f0 x.f1 x.f2 x.f3 x.f4 = word y.f0 y.f1 y.f2 y.f3 y.f4
      · rw [← q, e] at e'
        have := Option.some.inj e'
        simp only [Prod.mk.injEq] at this
        obtain ⟨a, b, c, d, f⟩ := this
        simp [a, b, c, d, f]
      · have n : (word x.f0 x.f1 x.f2 x.f3 x.f4 == word y.f0 y.f1 y.f2 y.f3 y.f4) = false := by simpa using q
        have n' : (x.f0 == y.f0 && (x.f1 == y.f1 && (x.f2 == y.f2 && (x.f3 == y.f3 && (x.f4 == y.f4))))) = false := by
          rw [Bool.eq_false_iff]
          intro t
          simp only [Bool.and_eq_true, beq_iff_eq] at t
          obtain ⟨a, b, c, d, f⟩ := t
          exact q (by rw [a, b, c, d, f])
        simp only [n, n']
        rfl
    · rw [if_neg h', if_neg (by decide)]
  · rw [if_neg h, if_neg (by decide)]
end Go.Proofs.Ytifineoohopchaa.Pure
