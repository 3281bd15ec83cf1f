/- What a step keeps: words, bytes. Plain laws. Own work; a template. -/
import Derived.Test.YtcagccodmmcnfaaPureStepB
import Derived.Test.YtcagccodmmcnfaaMxH
namespace Go.Proofs.Ytcagccodmmcnfaa.Cpu
open Go.RowKit Go.Proofs.YtcagccodmmcnfaaW.PrintWords Go.Proofs.YtcagccodmmcnfaaW.PrintLast Go.Proofs.YtcagccodmmcnfaaW.PrintMore Go.Proofs.Ytcagccodmmcnfaa.Hp Go.Proofs.Ytcagccodmmcnfaa.Q Go.Proofs.Ytcagccodmmcnfaa.Code
set_option linter.unusedVariables false
set_option linter.unusedSimpArgs false
/-- A state's numbers are words and bytes. -/
structure Wf (t : St) : Prop where
  R : ∀ x ∈ t.R, U32 x
  byt : ∀ x ∈ t.byt, B8 x
  inp : ∀ x ∈ t.inp, B8 x
theorem rd_u32 {l : List Int} (h : ∀ x ∈ l, U32 x) (i : Int) : U32 (rd l i) := by
  unfold rd
  rw [List.getD_eq_getElem?_getD]
  cases hq : l[i.toNat]? with
  | none => exact ⟨by simp, by simp⟩
  | some v => exact h v (List.mem_of_getElem? hq)
theorem set_all {P : Int → Prop} {l : List Int} (h : ∀ x ∈ l, P x) (i : Nat) {v : Int} (hv : P v) : ∀ x ∈ l.set i v, P x := fun x hx => by
  rcases List.mem_or_eq_of_mem_set hx with hx | rfl
  · exact h x hx
  · exact hv
theorem Wf.put {t : St} (h : Wf t) (r : Int) {v : Int} (hv : U32 v) : Wf (t.put r v) := ⟨by
  unfold St.put
  simp only
  split
  · exact set_all h.R _ hv
  · exact h.R, h.byt, h.inp⟩
theorem saveL_b8 {l : List Int} (h : ∀ x ∈ l, B8 x) (p : Nat) (v : Int) (wide : Bool) : ∀ x ∈ saveL l p v wide, B8 x := by
  unfold saveL splice
  intro x hx
  simp only [List.mem_append] at hx
  have hb : ∀ y ∈ byteF v, B8 y := by
    intro y hy
    unfold byteF at hy
    unfold B8
    simp only [List.mem_cons, List.not_mem_nil, or_false] at hy
    rcases hy with rfl | rfl | rfl | rfl <;> omega
  rcases hx with hx | hx | hx
  · exact h x (List.mem_of_mem_take hx)
  · exact hb x (List.mem_of_mem_take hx)
  · exact h x (List.mem_of_mem_drop hx)
theorem okF_fits {n : Nat} {a : Int} {wide : Bool} (h : okF n a wide = true) : 0 ≤ a - 65536 ∧ (a - 65536).toNat + (sizeF wide).toNat ≤ n := by
  unfold okF at h
  have := of_decide_eq_true h
  unfold sizeF at *
  cases wide <;> simp only [if_true, if_false, Bool.false_eq_true] at * <;> omega
theorem step_wf (t : St) (ws : List Int) (hws : ∀ x ∈ ws, U32 x) (h : Wf t) : Wf (t.step ws) := by
  have fault : ∀ k, Wf (t.fault k) := fun k => ⟨h.R, h.byt, h.inp⟩
  unfold St.step
  split
  · exact h
  split
  · exact fault 2
  cases hg : gW (rd ws t.at_) with
  | none => exact fault 2
  | some q =>
    obtain ⟨op, a, b, c, i⟩ := q
    have hrt : Rt op a b c i := (gt_word (by have := rd_u32 hws t.at_; unfold U32 at this; omega) (by omega) (by omega) hg).1
    show Wf (t.does ⟨op, a, b, c, i⟩)
    unfold St.does
    split
    · split
      · exact h.put _ ⟨by omega, by omega⟩
      · exact h.put _ (do4_f 34 (Nat.le_refl _) ⟨op, a, b, c, i⟩ hrt _ _ (rd_u32 h.R _) (rd_u32 h.R _)).2
    split
    · unfold St.effect
      have ld : ∀ wide, Wf (t.load ⟨op, a, b, c, i⟩ wide) := fun wide => by
        unfold St.load
        split
        · rename_i ok
          exact h.put _ (loadW_u32 _ _ _ h.byt (okF_fits ok).2)
        · exact fault 3
      have sv : ∀ wide, Wf (t.save ⟨op, a, b, c, i⟩ wide) := fun wide => by
        unfold St.save
        split
        · exact ⟨h.R, saveL_b8 h.byt _ _ _, h.inp⟩
        · exact fault 4
      split
      · exact ld true
      split
      · exact ld false
      split
      · exact sv true
      split
      · exact sv false
      split
      · unfold St.inn
        split
        · exact h.put _ ⟨by omega, by omega⟩
        · rename_i x l hx
          have hl : ∀ y ∈ t.inp, B8 y := h.inp
          rw [hx] at hl
          have hx8 := hl x (.head _)
          exact Wf.put (t := { t with inp := l }) ⟨h.R, h.byt, fun y hy => hl y (.tail _ hy)⟩ _ (by unfold B8 at hx8; exact ⟨by omega, by omega⟩)
      · exact ⟨h.R, h.byt, h.inp⟩
    split
    · unfold St.ends
      split
      · exact ⟨h.R, h.byt, h.inp⟩
      split
      · exact ⟨h.R, h.byt, h.inp⟩
      split
      · exact ⟨h.R, h.byt, h.inp⟩
      · exact ⟨h.R, h.byt, h.inp⟩
    · exact ⟨h.R, h.byt, h.inp⟩
end Go.Proofs.Ytcagccodmmcnfaa.Cpu
