/- CodeKeeps, in plain numbers: what is handed in stays, and what is answered is new memory. No conditions. -/
import Derived.Test.YtifineoohopchaaCodeLaws
namespace Go.Proofs.Ytifineoohopchaa.Pure
open Go.RowKit Go.Proofs.Ytifineoohopchaa.Q Go.Proofs.YtifineoohopchaaW.PrintWords Go.Proofs.YtifineoohopchaaW.PrintLast Go.Proofs.YtifineoohopchaaW.PrintMore Go.Proofs.Ytifineoohopchaa.Lib Go.Proofs.Ytifineoohopchaa.Code
theorem keeps_loop (l : List Int) (hl : l.length ≤ 300) (hu : ∀ w ∈ l, U32 w) (d : Nat) : ∀ (k i : Nat) (x : List S23), i ≤ x.length → x.length - i = d → x.length ≤ 300 → d + 400 < k → splicelaw02_CodeKeeps.l0 k l l x i = some true := by
  induction d with
  | zero =>
    intro k i x h1 h2 h3 hk
    obtain ⟨k, rfl⟩ : ∃ m, k = m + 1 := ⟨k - 1, by omega⟩
    have := allW_len l [] 0
    simp at this
    simp only [splicelaw02_CodeKeeps.l0]
    rw [if_neg (by omega), all_eq (by omega) hu (by omega), ref_all_eq (by omega) hu (by omega), words_refl (by omega) (by omega)]
    simp only [Option.bind_some]
    rw [if_pos trivial, if_pos trivial, same_refl (by omega) (by omega)]
    rfl
  | succ d ih =>
    intro k i x h1 h2 h3 hk
    obtain ⟨k, rfl⟩ : ∃ m, k = m + 1 := ⟨k - 1, by omega⟩
    simp only [splicelaw02_CodeKeeps.l0]
    rw [if_pos (by omega), if_pos (by omega), w64 (by omega) (by omega)]
    exact ih k (i + 1) _ (by simp; omega) (by simp; omega) (by simp; omega) (by omega)
theorem CodeKeeps : splicelaw02_CodeKeeps.Pure := by
  intro l hl
  refine ⟨1000, ?_⟩
  unfold splicelaw02_CodeKeeps.f
  rw [awake02 (by omega), Option.bind_some, if_pos rfl]
  simp only [splicelaw02_CodeKeeps.j0]
  by_cases h : (l.length : Int) > 300
  · rw [decide_eq_true h, if_pos rfl, awake02 (by omega)]
    rfl
  · have := allW_len l [] 0
    simp at this
    rw [decide_eq_false h, if_neg (by decide)]
    simp only [Option.bind_some, List.length_nil, List.nil_append]
    rw [if_pos (by omega), all_eq (by omega) hl.2 (by omega), Option.bind_some]
    exact keeps_loop l (by omega) hl.2 _ _ 0 _ (by omega) rfl (by omega) (by omega)
end Go.Proofs.Ytifineoohopchaa.Pure
