/- The layer 'code' as plain mathematics: what Right, Put and Get come to, program and reference. Own work; a template: 'Ytcagccodmmcnfaa' is a seat's Name, 'Q' the base of its printed texts. -/
import Derived.Test.YtcagccodmmcnfaaQD0
import Derived.Test.YtcagccodmmcnfaaCodeDefs
import Derived.Test.YtcagccodmmcnfaaQ39
namespace Go.Proofs.Ytcagccodmmcnfaa.Code
open Go.RowKit Go.Proofs.Ytcagccodmmcnfaa.Q Go.Proofs.YtcagccodmmcnfaaW.PrintWords Go.Proofs.YtcagccodmmcnfaaW.PrintLast Go.Proofs.YtcagccodmmcnfaaW.PrintMore Go.Proofs.Ytcagccodmmcnfaa.Lib
set_option linter.unusedVariables false
set_option linter.unusedSimpArgs false

theorem fits8 (x : Int) : bits_Fits.f x 8 = some (decide (-128 ≤ x ∧ x ≤ 127)) := by
  have h1 : shl .i64 (-1) (wrap64 (8 - 1)) = -128 := by decide +kernel
  have h2 : shl .i64 1 (wrap64 (8 - 1)) = 128 := by decide +kernel
  have h3 : (0 : Int) ≤ wrap64 (8 - 1) := by decide +kernel
  unfold bits_Fits.f bits_may.f
  simp only [h1, h2, if_pos h3]
  by_cases c : x ≥ -128 <;> simp [c] <;> omega
theorem fits16 (x : Int) : bits_Fits.f x 16 = some (decide (-32768 ≤ x ∧ x ≤ 32767)) := by
  have h1 : shl .i64 (-1) (wrap64 (16 - 1)) = -32768 := by decide +kernel
  have h2 : shl .i64 1 (wrap64 (16 - 1)) = 32768 := by decide +kernel
  have h3 : (0 : Int) ≤ wrap64 (16 - 1) := by decide +kernel
  unfold bits_Fits.f bits_may.f
  simp only [h1, h2, if_pos h3]
  by_cases c : x ≥ -32768 <;> simp [c] <;> omega
theorem fits24 (x : Int) : bits_Fits.f x 24 = some (decide (-8388608 ≤ x ∧ x ≤ 8388607)) := by
  have h1 : shl .i64 (-1) (wrap64 (24 - 1)) = -8388608 := by decide +kernel
  have h2 : shl .i64 1 (wrap64 (24 - 1)) = 8388608 := by decide +kernel
  have h3 : (0 : Int) ≤ wrap64 (24 - 1) := by decide +kernel
  unfold bits_Fits.f bits_may.f
  simp only [h1, h2, if_pos h3]
  by_cases c : x ≥ -8388608 <;> simp [c] <;> omega

theorem reg_t (n : Int) : code_register.f n true = some (decide (0 ≤ n ∧ n ≤ 15)) := by
  unfold code_register.f
  by_cases c : n = 0
  · subst c; rfl
  · rw [if_neg c, if_pos rfl]
    by_cases c2 : n > 0
    · rw [if_pos c2]; exact congrArg some (decide_eq_decide.2 (by omega))
    · rw [if_neg c2]; exact congrArg some (decide_eq_false (by omega)).symm
theorem reg_f (n : Int) : code_register.f n false = some (decide (n = 0)) := by
  unfold code_register.f
  by_cases c : n = 0 <;> simp [c]

theorem imm_none (a b c p : Bool) (x : Int) : code_form_imm.f a b c 0 p x = some (decide (x = 0)) := by
  unfold code_form_imm.f; simp; rfl
theorem imm_8 (a b c : Bool) (x : Int) : code_form_imm.f a b c 8 false x = some (decide (-128 ≤ x ∧ x ≤ 127)) := by
  unfold code_form_imm.f; simp [fits8]
theorem imm_16 (a b c : Bool) (x : Int) : code_form_imm.f a b c 16 false x = some (decide (-32768 ≤ x ∧ x ≤ 32767)) := by
  unfold code_form_imm.f; simp [fits16]
theorem imm_24 (a b c : Bool) (x : Int) : code_form_imm.f a b c 24 false x = some (decide (-8388608 ≤ x ∧ x ≤ 8388607)) := by
  unfold code_form_imm.f; simp [fits24]
theorem imm_p (a b c : Bool) (x : Int) : code_form_imm.f a b c 16 true x = some (decide (0 ≤ x ∧ x ≤ 65535)) := by
  have h2 : shl .i64 1 16 = 65536 := by decide +kernel
  unfold code_form_imm.f
  by_cases h : x ≥ 0 <;> simp [h, h2] <;> omega

theorem and_then {P Q : Prop} [Decidable P] [Decidable Q] {X : Option Bool} (h : X = some (decide Q)) : (if decide P = true then X else some false) = some (decide (P ∧ Q)) := by
  subst h
  by_cases p : P <;> simp [p]
theorem right_key {k : Nat} {op a b c imm : Int} (h0 : 0 ≤ op) (h1 : op < 26) {A B C Q : Prop} [Decidable A] [Decidable B] [Decidable C] [Decidable Q]
    (hA : code_register.f a (form_a op) = some (decide A)) (hB : code_register.f b (form_b op) = some (decide B)) (hC : code_register.f c (form_c op) = some (decide C))
    (hQ : code_form_imm.f (form_a op) (form_b op) (form_c op) (form_w op) (form_p op) imm = some (decide Q)) (hr : Rt op a b c imm ↔ (A ∧ B ∧ C ∧ Q)) :
    code_Right.j0 (k + 1) false op a b c imm = some (decide (Rt op a b c imm)) := by
  simp only [code_Right.j0, code_forms.f, Option.bind_some, if_pos h0, if_pos h1, hA, hB, hC, hQ]
  rw [if_neg (by decide)]
  refine (and_then (and_then (and_then rfl))).trans ?_
  exact congrArg some (decide_eq_decide.2 hr.symm)
theorem right_three {k : Nat} {op a b c imm : Int} (g0 : 1 ≤ op) (g1 : op ≤ 7) : code_Right.j0 (k + 1) false op a b c imm = some (decide (Rt op a b c imm)) := by
  have e1 : form_a op = true := by simp [form_a]; omega
  have e2 : form_b op = true := by simp [form_b]; omega
  have e3 : form_c op = true := by simp [form_c]; omega
  have e4 : form_w op = 0 := by unfold form_w; rw [if_pos (by omega)]
  exact right_key (by omega) (by omega) (by rw [e1]; exact reg_t a) (by rw [e2]; exact reg_t b) (by rw [e3]; exact reg_t c) (by rw [e4]; exact imm_none _ _ _ _ _) (rt_three ⟨g0, g1⟩)
theorem right_near {k : Nat} {op a b c imm : Int} (g : op = 8 ∨ 11 ≤ op ∧ op ≤ 14) : code_Right.j0 (k + 1) false op a b c imm = some (decide (Rt op a b c imm)) := by
  have e1 : form_a op = true := by simp [form_a]; omega
  have e2 : form_b op = true := by simp [form_b]; omega
  have e3 : form_c op = false := by simp [form_c]; omega
  have e4 : form_w op = 16 := by unfold form_w; rw [if_neg (by omega), if_pos (by omega)]
  have e5 : form_p op = false := by simp [form_p]; omega
  exact right_key (by omega) (by omega) (by rw [e1]; exact reg_t a) (by rw [e2]; exact reg_t b) (by rw [e3]; exact reg_f c) (by rw [e4, e5]; exact imm_16 _ _ _ _) (rt_near g)
theorem right_branch {k : Nat} {op a b c imm : Int} (g : 15 ≤ op ∧ op ≤ 18) : code_Right.j0 (k + 1) false op a b c imm = some (decide (Rt op a b c imm)) := by
  have e1 : form_a op = true := by simp [form_a]; omega
  have e2 : form_b op = true := by simp [form_b]; omega
  have e3 : form_c op = false := by simp [form_c]; omega
  have e4 : form_w op = 8 := by unfold form_w; rw [if_neg (by omega), if_neg (by omega), if_pos (by omega)]
  have e5 : form_p op = false := by simp [form_p]; omega
  exact right_key (by omega) (by omega) (by rw [e1]; exact reg_t a) (by rw [e2]; exact reg_t b) (by rw [e3]; exact reg_f c) (by rw [e4, e5]; exact imm_8 _ _ _ _) (rt_branch g)
theorem right_one {k : Nat} {op a b c imm : Int} (g : op = 0 ∨ op = 22 ∨ op = 23) : code_Right.j0 (k + 1) false op a b c imm = some (decide (Rt op a b c imm)) := by
  have e1 : form_a op = true := by simp [form_a]; omega
  have e2 : form_b op = false := by simp [form_b]; omega
  have e3 : form_c op = false := by simp [form_c]; omega
  have e4 : form_w op = 0 := by rcases g with rfl | rfl | rfl <;> rfl
  exact right_key (by omega) (by omega) (by rw [e1]; exact reg_t a) (by rw [e2]; exact reg_f b) (by rw [e3]; exact reg_f c) (by rw [e4]; exact imm_none _ _ _ _ _) (rt_one g)
theorem right_nil {k : Nat} {op a b c imm : Int} (g : op = 21 ∨ op = 24 ∨ op = 25) : code_Right.j0 (k + 1) false op a b c imm = some (decide (Rt op a b c imm)) := by
  have e1 : form_a op = false := by simp [form_a]; omega
  have e2 : form_b op = false := by simp [form_b]; omega
  have e3 : form_c op = false := by simp [form_c]; omega
  have e4 : form_w op = 0 := by rcases g with rfl | rfl | rfl <;> rfl
  exact right_key (by omega) (by omega) (by rw [e1]; exact reg_f a) (by rw [e2]; exact reg_f b) (by rw [e3]; exact reg_f c) (by rw [e4]; exact imm_none _ _ _ _ _) (rt_nil g)
theorem right_far {k : Nat} {op a b c imm : Int} (g : op = 19 ∨ op = 20) : code_Right.j0 (k + 1) false op a b c imm = some (decide (Rt op a b c imm)) := by
  have e1 : form_a op = false := by simp [form_a]; omega
  have e2 : form_b op = false := by simp [form_b]; omega
  have e3 : form_c op = false := by simp [form_c]; omega
  have e4 : form_w op = 24 := by rcases g with rfl | rfl <;> rfl
  have e5 : form_p op = false := by simp [form_p]; omega
  exact right_key (by omega) (by omega) (by rw [e1]; exact reg_f a) (by rw [e2]; exact reg_f b) (by rw [e3]; exact reg_f c) (by rw [e4, e5]; exact imm_24 _ _ _ _) (rt_far g)
theorem right_9 {k : Nat} {a b c imm : Int} : code_Right.j0 (k + 1) false 9 a b c imm = some (decide (Rt 9 a b c imm)) :=
  right_key (by omega) (by omega) (reg_t a) (reg_f b) (reg_f c) (imm_p _ _ _ _) (rt_9 rfl)
theorem right_10 {k : Nat} {a b c imm : Int} : code_Right.j0 (k + 1) false 10 a b c imm = some (decide (Rt 10 a b c imm)) :=
  right_key (by omega) (by omega) (reg_t a) (reg_t b) (reg_f c) (imm_p _ _ _ _) (rt_10 rfl)
/-- What is asked of an operation's parts. -/
theorem right_j (k : Nat) (op a b c imm : Int) (h0 : 0 ≤ op) (h1 : op < 26) : code_Right.j0 (k + 1) false op a b c imm = some (decide (Rt op a b c imm)) := by
  by_cases c1 : 1 ≤ op ∧ op ≤ 7
  · exact right_three c1.1 c1.2
  by_cases c2 : op = 8 ∨ 11 ≤ op ∧ op ≤ 14
  · exact right_near c2
  by_cases c3 : 15 ≤ op ∧ op ≤ 18
  · exact right_branch c3
  by_cases c4 : op = 0 ∨ op = 22 ∨ op = 23
  · exact right_one c4
  by_cases c5 : op = 19 ∨ op = 20
  · exact right_far c5
  by_cases c6 : op = 21 ∨ op = 24 ∨ op = 25
  · exact right_nil c6
  by_cases c7 : op = 9
  · subst c7; exact right_9
  have c8 : op = 10 := by omega
  subst c8; exact right_10

theorem right_eq (k : Nat) (op a b c imm : Int) : code_Right.f (k + 1) op a b c imm = some (decide (Rt op a b c imm)) := by
  unfold code_Right.f
  by_cases h0 : op < 0
  · rw [if_pos h0]
    simp only [code_Right.j0, if_true]
    have : ¬ Rt op a b c imm := rt_no (by omega)
    simp [this]
  · rw [if_neg h0]
    by_cases h1 : op ≥ 26
    · rw [decide_eq_true h1]
      simp only [code_Right.j0, if_true]
      have : ¬ Rt op a b c imm := rt_no (by omega)
      simp [this]
    · rw [decide_eq_false h1]
      exact right_j k op a b c imm (by omega) (by omega)

theorem cut8 (x : Int) : bits_Cut.f x 8 = some (x % 256) := by
  have h1 : IntKind.u64.wrap (shl .u64 1 8 - 1) = 255 := by decide +kernel
  unfold bits_Cut.f bits_may.f
  simp only [h1]
  simp
  rw [wrap_u64, u64_and8 (by omega) (by omega)]
  omega
theorem cut16 (x : Int) : bits_Cut.f x 16 = some (x % 65536) := by
  have h1 : IntKind.u64.wrap (shl .u64 1 16 - 1) = 65535 := by decide +kernel
  unfold bits_Cut.f bits_may.f
  simp only [h1]
  simp
  rw [wrap_u64, u64_and16 (by omega) (by omega)]
  omega
theorem cut24 (x : Int) : bits_Cut.f x 24 = some (x % 16777216) := by
  have h1 : IntKind.u64.wrap (shl .u64 1 24 - 1) = 16777215 := by decide +kernel
  unfold bits_Cut.f bits_may.f
  simp only [h1]
  simp
  rw [wrap_u64, u64_and24 (by omega) (by omega)]
  omega
theorem cut32 (x : Int) : bits_Cut.f x 32 = some (x % 4294967296) := by
  have h1 : IntKind.u64.wrap (shl .u64 1 32 - 1) = 4294967295 := by decide +kernel
  unfold bits_Cut.f bits_may.f
  simp only [h1]
  simp
  rw [wrap_u64, u64_and32 (by omega) (by omega)]
  omega

/-- Put's word, joined bit by bit. -/
theorem join4 {op a b c : Int} (h0 : 0 ≤ op) (h1 : op < 26) (ha : 0 ≤ a ∧ a ≤ 15) (hb : 0 ≤ b ∧ b ≤ 15) (hc : 0 ≤ c ∧ c ≤ 15) :
    Go.bits .or .u32 (Go.bits .or .u32 (Go.bits .or .u32 ((((op) % 4294967296) * 16777216) % 4294967296) ((((a) % 4294967296) * 1048576) % 4294967296)) ((((b) % 4294967296) * 65536) % 4294967296)) ((c) % 4294967296) = op * 16777216 + a * 1048576 + b * 65536 + c := by
  have e0 : (((op) % 4294967296) * 16777216) % 4294967296 = op * 16777216 := by omega
  have e1 : (((a) % 4294967296) * 1048576) % 4294967296 = a * 1048576 := by omega
  have e2 : (((b) % 4294967296) * 65536) % 4294967296 = b * 65536 := by omega
  have e3 : (c) % 4294967296 = c := by omega
  rw [e0, e1, e2, e3, join32 (x := op * 16777216) (y := a * 1048576) 24 (by omega) (by omega) (by omega) (by omega) (by omega) (by omega), join32 (x := op * 16777216 + a * 1048576) (y := b * 65536) 20 (by omega) (by omega) (by omega) (by omega) (by omega) (by omega), join32 (x := op * 16777216 + a * 1048576 + b * 65536) (y := c) 16 (by omega) (by omega) (by omega) (by omega) (by omega) (by omega)]

theorem put_eq (k : Nat) (op a b c imm : Int) : code_Put.f (k + 1) op a b c imm = some (if Rt op a b c imm then (word op a b c imm, 0) else (0, 3)) := by
  unfold code_Put.f
  rw [right_eq]
  by_cases hr : Rt op a b c imm
  · rw [if_pos hr, decide_eq_true hr]
    obtain ⟨⟨h0, h1⟩, ha, hb, hc, hc0, hi, hf, hi0⟩ := rt_regs hr
    have h1' : op < 26 := by omega
    simp only [Option.bind_some, if_true, code_forms.f, if_pos h0, if_pos h1', join4 h0 h1' ha hb hc]
    by_cases b8 : 15 ≤ op ∧ op ≤ 18
    · have hw : form_w op = 8 := by unfold form_w; rw [if_neg (by omega), if_neg (by omega), if_pos (by omega)]
      have := hc0 (by omega)
      rw [hw, if_pos (by omega), cut8, Option.bind_some, join32 8 (by omega) (by omega) (by omega) (by omega) (by omega) (by omega)]
      unfold word cutI; rw [if_pos b8]
    by_cases b24 : op = 19 ∨ op = 20
    · have hw : form_w op = 24 := by rcases b24 with rfl | rfl <;> rfl
      have := hc0 (by omega)
      have := hf b24
      rw [hw, if_pos (by omega), cut24, Option.bind_some, join32 24 (by omega) (by omega) (by omega) (by omega) (by omega) (by omega)]
      unfold word cutI; rw [if_neg b8, if_pos b24]
    by_cases b16 : 8 ≤ op ∧ op ≤ 14
    · have hw : form_w op = 16 := by unfold form_w; rw [if_neg (by omega), if_pos (by omega)]
      have := hc0 (by omega)
      rw [hw, if_pos (by omega), cut16, Option.bind_some, join32 16 (by omega) (by omega) (by omega) (by omega) (by omega) (by omega)]
      unfold word cutI; rw [if_neg b8, if_neg b24]
    · have hw : form_w op = 0 := by
        unfold form_w
        split
        · rfl
        · rw [if_neg (by omega), if_neg (by omega), if_neg (by omega)]
      have := hi0 (by omega)
      subst this
      rw [hw, if_neg (by omega)]
      unfold word cutI
      simp
  · rw [if_neg hr, decide_eq_false hr]
    simp

/-! ### The reference -/
theorem three_eq (n : Int) : spliceref02_three.f n = some (decide (1 ≤ n ∧ n ≤ 7)) := by unfold spliceref02_three.f; by_cases c : n ≥ 1 <;> simp [c] <;> omega
theorem reg_eq (n : Int) : spliceref02_reg.f n = some (decide (0 ≤ n ∧ n ≤ 15)) := by unfold spliceref02_reg.f; by_cases c : n ≥ 0 <;> simp [c] <;> omega
theorem near_eq (n : Int) : spliceref02_near.f n = some (decide (n = 8 ∨ 11 ≤ n ∧ n ≤ 14)) := by unfold spliceref02_near.f; by_cases c : n = 8 <;> by_cases c2 : n ≥ 11 <;> simp [c, c2] <;> omega
theorem branch_eq (n : Int) : spliceref02_branch.f n = some (decide (15 ≤ n ∧ n ≤ 18)) := by unfold spliceref02_branch.f; by_cases c : n ≥ 15 <;> simp [c] <;> omega
theorem one_eq (n : Int) : spliceref02_one.f n = some (decide (n = 0 ∨ n = 22 ∨ n = 23)) := by
  unfold spliceref02_one.f; by_cases c : n = 0 <;> by_cases c2 : n = 22 <;> simp [c, c2]
  rfl
theorem far_eq (n : Int) : spliceref02_far.f n = some (decide (n = 19 ∨ n = 20)) := by
  unfold spliceref02_far.f; by_cases c : n = 19 <;> simp [c]
  rfl
theorem fold3 {P Q : Prop} [Decidable P] [Decidable Q] : (if P then some (decide Q) else some false) = some (decide (P ∧ Q)) := by
  by_cases p : P <;> simp [p]
theorem fold_eq {x : Int} : some (x == 0) = some (decide (x = 0)) := rfl
theorem fold_if {P Q : Prop} [Decidable P] [Decidable Q] (h : P ↔ Q) : some (decide P) = some (decide Q) := congrArg some (decide_eq_decide.2 h)
theorem ref_right_eq (op a b c imm : Int) : spliceref02_Right.f op a b c imm = some (decide (Rt op a b c imm)) := by
  unfold spliceref02_Right.f
  simp only [three_eq, reg_eq, near_eq, branch_eq, one_eq, far_eq, Option.bind_some, decide_eq_true_eq, fold_eq, fold3]
  by_cases g1 : 1 ≤ op ∧ op ≤ 7
  · rw [if_pos g1]; exact fold_if (rt_three g1).symm
  rw [if_neg g1]
  by_cases c0 : ¬ c = 0
  · rw [if_neg c0]
    have : ¬ Rt op a b c imm := fun h => c0 ((rt_regs h).2.2.2.2.1 g1)
    simp [this]
  have c0 := Decidable.not_not.1 c0
  rw [if_pos c0]
  by_cases g2 : op = 8 ∨ 11 ≤ op ∧ op ≤ 14
  · rw [if_pos g2]; refine fold_if (Iff.trans ?_ (rt_near g2).symm); exact ⟨fun h => ⟨h.1, h.2.1, c0, h.2.2⟩, fun h => ⟨h.1, h.2.1, h.2.2.2⟩⟩
  rw [if_neg g2]
  by_cases g3 : op = 10
  · rw [if_pos g3]; refine fold_if (Iff.trans ?_ (rt_10 g3).symm); exact ⟨fun h => ⟨h.1, h.2.1, c0, h.2.2⟩, fun h => ⟨h.1, h.2.1, h.2.2.2⟩⟩
  rw [if_neg g3]
  by_cases g4 : 15 ≤ op ∧ op ≤ 18
  · rw [if_pos g4]; refine fold_if (Iff.trans ?_ (rt_branch g4).symm); exact ⟨fun h => ⟨h.1, h.2.1, c0, h.2.2⟩, fun h => ⟨h.1, h.2.1, h.2.2.2⟩⟩
  rw [if_neg g4]
  by_cases b0 : ¬ b = 0
  · rw [if_neg b0]
    have : ¬ Rt op a b c imm := fun h => by rcases rt_cases h with h | h | h | h | h | h | h | h <;> omega
    simp [this]
  have b0 := Decidable.not_not.1 b0
  rw [if_pos b0]
  by_cases g5 : op = 9
  · rw [if_pos g5]; refine fold_if (Iff.trans ?_ (rt_9 g5).symm); exact ⟨fun h => ⟨h.1, b0, c0, h.2⟩, fun h => ⟨h.1, h.2.2.2⟩⟩
  rw [if_neg g5]
  by_cases g6 : op = 0 ∨ op = 22 ∨ op = 23
  · rw [if_pos g6]; refine fold_if (Iff.trans ?_ (rt_one g6).symm); exact ⟨fun h => ⟨h.1, b0, c0, h.2⟩, fun h => ⟨h.1, h.2.2.2⟩⟩
  rw [if_neg g6]
  by_cases g7 : op = 19 ∨ op = 20
  · rw [if_pos g7]; refine fold_if (Iff.trans ?_ (rt_far g7).symm); exact ⟨fun h => ⟨h.1, b0, c0, h.2⟩, fun h => ⟨h.1, h.2.2.2⟩⟩
  rw [if_neg g7]
  by_cases g8 : op = 21 ∨ op = 24 ∨ op = 25
  · have e : Rt op a b c imm ↔ a = 0 ∧ imm = 0 := (rt_nil g8).trans ⟨fun h => ⟨h.1, h.2.2.2⟩, fun h => ⟨h.1, b0, c0, h.2⟩⟩
    rcases g8 with rfl | rfl | rfl
    · rw [if_pos rfl]; exact fold_if e.symm
    · rw [if_neg (by omega), if_pos rfl]; exact fold_if e.symm
    · rw [if_neg (by omega), if_neg (by omega)]; exact fold_if (Iff.trans ⟨fun h => h.2, fun h => ⟨rfl, h⟩⟩ e.symm)
  · have : ¬ Rt op a b c imm := rt_no (by omega)
    rw [if_neg (by omega), if_neg (by omega)]
    simp [this]
    omega

theorem tail_eq (k : Nat) (w o a b c i : Int) : ((code_Put.f (k + 1) o a b c i).bind fun bt => (if bt.2 = 0 then (if bt.1 = w then (some (o, a, b, c, i, (0 : Int))) else (some (0, 0, 0, 0, 0, 3))) else (some (0, 0, 0, 0, 0, 3)))) = some (if Rt o a b c i ∧ word o a b c i = w then (o, a, b, c, i, 0) else (0, 0, 0, 0, 0, 3)) := by
  rw [put_eq]
  by_cases h : Rt o a b c i
  · by_cases h2 : word o a b c i = w <;> simp [h, h2]
  · simp [h]
theorem tail_get {w o a b c i : Int} (hw : U32 w) (ho : ∀ j, gW w = some j → j = (o, a, b, c, i)) : (if Rt o a b c i ∧ word o a b c i = w then (o, a, b, c, i, (0 : Int)) else (0, 0, 0, 0, 0, 3)) = getR (gW w) := by
  by_cases h : Rt o a b c i ∧ word o a b c i = w
  · rw [if_pos h, (gW_iff hw).2 h]
    rfl
  · rw [if_neg h]
    cases hg : gW w with
    | none => rfl
    | some j =>
      obtain rfl := ho j hg
      exact absurd ((gW_iff hw).1 hg) h

theorem sign8 {w : Int} (h : U32 w) : bits_Sign.f w 8 = some (sg8 (w % 256)) := by
  unfold U32 at h
  have h3 : wrap64 (64 - 8) = 56 := by decide +kernel
  unfold bits_Sign.f bits_may.f
  simp only [h3]
  have e1 : shl .u64 (IntKind.u64.wrap w) 56 = (w * 72057594037927936) % 18446744073709551616 := by
    rw [wrap_u64, show (56 : Int) = ((56 : Nat) : Int) from rfl, shl_val .u64 _ 56 56 (by decide), wrap_u64]; omega
  have e2 : ∀ x : Int, shr .i64 x 56 = x / 72057594037927936 := fun x => rfl
  simp only [e1, e2]
  simp
  unfold wrap64 sg8
  split <;> omega
theorem sign16 {w : Int} (h : U32 w) : bits_Sign.f w 16 = some (sg16 (w % 65536)) := by
  unfold U32 at h
  have h3 : wrap64 (64 - 16) = 48 := by decide +kernel
  unfold bits_Sign.f bits_may.f
  simp only [h3]
  have e1 : shl .u64 (IntKind.u64.wrap w) 48 = (w * 281474976710656) % 18446744073709551616 := by
    rw [wrap_u64, show (48 : Int) = ((48 : Nat) : Int) from rfl, shl_val .u64 _ 48 48 (by decide), wrap_u64]; omega
  have e2 : ∀ x : Int, shr .i64 x 48 = x / 281474976710656 := fun x => rfl
  simp only [e1, e2]
  simp
  unfold wrap64 sg16
  split <;> omega
theorem sign24 {w : Int} (h : U32 w) : bits_Sign.f w 24 = some (sg24 (w % 16777216)) := by
  unfold U32 at h
  have h3 : wrap64 (64 - 24) = 40 := by decide +kernel
  unfold bits_Sign.f bits_may.f
  simp only [h3]
  have e1 : shl .u64 (IntKind.u64.wrap w) 40 = (w * 1099511627776) % 18446744073709551616 := by
    rw [wrap_u64, show (40 : Int) = ((40 : Nat) : Int) from rfl, shl_val .u64 _ 40 40 (by decide), wrap_u64]; omega
  have e2 : ∀ x : Int, shr .i64 x 40 = x / 1099511627776 := fun x => rfl
  simp only [e1, e2]
  simp
  unfold wrap64 sg24
  split <;> omega

section
variable {op a b lo w : Int} (k : Nat) (ho : 0 ≤ op ∧ op ≤ 25) (ha : 0 ≤ a ∧ a ≤ 15) (hb : 0 ≤ b ∧ b ≤ 15) (hl : 0 ≤ lo ∧ lo ≤ 65535) (hw : w = op * 16777216 + a * 1048576 + b * 65536 + lo)
include ho ha hb hl hw
theorem w_u32 : U32 w := by unfold U32; omega
theorem w_gW : gW w = Gt op a b lo := by rw [hw]; exact gW_parts (by omega) ha hb hl
theorem w_lo16 : wrap64 (Go.bits .and .u32 w 65535) = lo := by rw [u32_and16 (by omega) (by omega), w64 (by omega) (by omega)]; omega
theorem w_lo4 : wrap64 (Go.bits .and .u32 w 15) = lo % 16 := by rw [u32_and15 (by omega) (by omega), w64 (by omega) (by omega)]; omega
theorem w_a : wrap64 (Go.bits .and .u32 (w / 1048576) 15) = a := by rw [u32_and15 (by omega) (by omega), w64 (by omega) (by omega)]; omega
theorem w_b : wrap64 (Go.bits .and .u32 (w / 65536) 15) = b := by rw [u32_and15 (by omega) (by omega), w64 (by omega) (by omega)]; omega
/-- What Get does behind the operation's form. -/
theorem get_j (A B : Int) (hA : (op = 19 ∨ op = 20) ∧ A = 0 ∧ B = 0 ∨ ¬ (op = 19 ∨ op = 20) ∧ A = a ∧ B = b) :
    code_Get.j0 (k + 2) w op A B 0 0 (form_a op) (form_b op) (form_c op) (form_w op) (form_p op) = some (getR (gW w)) := by
  have hu := w_u32 ho ha hb hl hw
  have hg := w_gW ho ha hb hl hw
  simp only [code_Get.j0, w_lo16 ho ha hb hl hw, w_lo4 ho ha hb hl hw]
  rcases op_kind op ho with g | g | g | g | g | g | g | g
  · have e : form_c op = true := by simp [form_c]; omega
    have eA : A = a ∧ B = b := by omega
    rw [if_pos e, eA.1, eA.2, tail_eq]
    refine congrArg some (tail_get hu (fun j hj => ?_))
    rw [hg, gt_three g] at hj
    split at hj
    · rw [← Option.some.inj hj, show lo % 16 = lo by omega]
    · cases hj
  · have e : ¬ form_c op = true := by simp [form_c]; omega
    have e2 : ¬ form_p op = true := by simp [form_p]; omega
    have e3 : form_w op = 16 := by unfold form_w; rw [if_neg (by omega), if_pos (by omega)]
    have eA : A = a ∧ B = b := by omega
    rw [if_neg e, if_neg e2, e3, if_pos (by omega), sign16 hu, Option.bind_some, eA.1, eA.2, tail_eq]
    refine congrArg some (tail_get hu (fun j hj => ?_))
    rw [hg, gt_near g] at hj
    rw [← Option.some.inj hj, show w % 65536 = lo by omega]
  · have e : ¬ form_c op = true := by simp [form_c]; omega
    have e2 : form_p op = true := by simp [form_p]; omega
    have eA : A = a ∧ B = b := by omega
    rw [if_neg e, if_pos e2, eA.1, eA.2, tail_eq]
    refine congrArg some (tail_get hu (fun j hj => ?_))
    rw [hg, gt_10 g] at hj
    rw [← Option.some.inj hj]
  · have e : ¬ form_c op = true := by simp [form_c]; omega
    have e2 : ¬ form_p op = true := by simp [form_p]; omega
    have e3 : form_w op = 8 := by unfold form_w; rw [if_neg (by omega), if_neg (by omega), if_pos (by omega)]
    have eA : A = a ∧ B = b := by omega
    rw [if_neg e, if_neg e2, e3, if_pos (by omega), sign8 hu, Option.bind_some, eA.1, eA.2, tail_eq]
    refine congrArg some (tail_get hu (fun j hj => ?_))
    rw [hg, gt_branch g] at hj
    split at hj
    · rw [← Option.some.inj hj, show w % 256 = lo by omega]
    · cases hj
  · have e : ¬ form_c op = true := by simp [form_c]; omega
    have e2 : form_p op = true := by simp [form_p]; omega
    have eA : A = a ∧ B = b := by omega
    rw [if_neg e, if_pos e2, eA.1, eA.2, tail_eq]
    refine congrArg some (tail_get hu (fun j hj => ?_))
    rw [hg, gt_9 g] at hj
    split at hj
    · rename_i h0
      rw [← Option.some.inj hj, h0]
    · cases hj
  · have e : ¬ form_c op = true := by simp [form_c]; omega
    have e2 : ¬ form_p op = true := by simp [form_p]; omega
    have e3 : form_w op = 0 := by rcases g with rfl | rfl | rfl <;> rfl
    have eA : A = a ∧ B = b := by omega
    rw [if_neg e, if_neg e2, e3, if_neg (by omega), eA.1, eA.2, tail_eq]
    refine congrArg some (tail_get hu (fun j hj => ?_))
    rw [hg, gt_one g] at hj
    split at hj
    · rename_i h0
      rw [← Option.some.inj hj, h0.1]
    · cases hj
  · have e : ¬ form_c op = true := by simp [form_c]; omega
    have e2 : ¬ form_p op = true := by simp [form_p]; omega
    have e3 : form_w op = 24 := by rcases g with rfl | rfl <;> rfl
    have eA : A = 0 ∧ B = 0 := by omega
    rw [if_neg e, if_neg e2, e3, if_pos (by omega), sign24 hu, Option.bind_some, eA.1, eA.2, tail_eq]
    refine congrArg some (tail_get hu (fun j hj => ?_))
    rw [hg, gt_far g] at hj
    rw [← Option.some.inj hj, show w % 16777216 = a * 1048576 + b * 65536 + lo by omega]
  · have e : ¬ form_c op = true := by simp [form_c]; omega
    have e2 : ¬ form_p op = true := by simp [form_p]; omega
    have e3 : form_w op = 0 := by rcases g with rfl | rfl | rfl <;> rfl
    have eA : A = a ∧ B = b := by omega
    rw [if_neg e, if_neg e2, e3, if_neg (by omega), eA.1, eA.2, tail_eq]
    refine congrArg some (tail_get hu (fun j hj => ?_))
    rw [hg, gt_nil g] at hj
    split at hj
    · rename_i h0
      rw [← Option.some.inj hj, h0.1, h0.2.1]
    · cases hj
end
theorem get_eq (k : Nat) {w : Int} (h : U32 w) : code_Get.f (k + 2) w = some (getR (gW w)) := by
  obtain ⟨op, a, b, lo, h0, ha, hb, hl, e, e0, e1, e2, e3⟩ := parts w h
  unfold code_Get.f
  have eo : wrap64 (w / 16777216) = op := by rw [w64 (by omega) (by omega)]; exact e0
  by_cases h1 : op ≥ 26
  · rw [eo, if_pos h1, show gW w = none from by unfold gW; rw [e0]; exact gt_no (by omega)]
    rfl
  · have ho : 0 ≤ op ∧ op ≤ 25 := by omega
    have h26 : op < 26 := by omega
    simp only [eo, w_a ho ha hb hl e, w_b ho ha hb hl e, code_forms.f, Option.bind_some]
    rw [if_neg h1, if_pos ho.1, if_pos h26]
    by_cases f : op = 19 ∨ op = 20
    · have : form_w op = 24 := by rcases f with rfl | rfl <;> rfl
      rw [if_neg (by omega)]
      exact get_j k ho ha hb hl e 0 0 (.inl ⟨f, rfl, rfl⟩)
    · have : form_w op < 24 := by
        unfold form_w
        split
        · omega
        · split
          · omega
          · split
            · omega
            · rw [if_neg (by omega)]; omega
      rw [if_pos this]
      exact get_j k ho ha hb hl e a b (.inr ⟨f, rfl, rfl⟩)

/-! ### The reference's reading -/
theorem power8 {k : Nat} (hk : 40 ≤ k) : spliceref01_Power.f k 8 = some 256 := at_rounds (spliceref01_Power.mono 8) hk (by decide +kernel)
theorem power16 {k : Nat} (hk : 40 ≤ k) : spliceref01_Power.f k 16 = some 65536 := at_rounds (spliceref01_Power.mono 16) hk (by decide +kernel)
theorem power24 {k : Nat} (hk : 40 ≤ k) : spliceref01_Power.f k 24 = some 16777216 := at_rounds (spliceref01_Power.mono 24) hk (by decide +kernel)
theorem power32 {k : Nat} (hk : 40 ≤ k) : spliceref01_Power.f k 32 = some 4294967296 := at_rounds (spliceref01_Power.mono 32) hk (by decide +kernel)
theorem rsign_j {k : Nat} {w n p h : Int} (hp : spliceref01_Power.f k n = some p) (hpos : 0 < p) (hp2 : p ≤ 4294967296) (hh : p / 2 = h) (hw : U32 w) :
    spliceref01_Sign.j0 (k + 1) w n false = some (if w % p < h then w % p else w % p - p) := by
  unfold U32 at hw
  simp only [spliceref01_Sign.j0, hp, Option.bind_some]
  have hm := Int.emod_nonneg w (by omega : p ≠ 0)
  have hm' := Int.emod_lt_of_pos w hpos
  have e1 : wrap64 w = w := w64 (by omega) (by omega)
  have e2 : Int.tmod w p = w % p := Int.tmod_eq_emod_of_nonneg (by omega)
  have e3 : wrap64 (Int.tdiv p 2) = h := by rw [Int.tdiv_eq_ediv_of_nonneg (by omega), w64 (by omega) (by omega)]; exact hh
  rw [if_neg (by decide), if_neg (by omega), e1, e2, e3]
  by_cases c : w % p ≥ h
  · rw [if_pos c, if_neg (by omega), w64 (by omega) (by omega)]
  · rw [if_neg c, if_pos (by omega)]
theorem rsign8 {k : Nat} (hk : 41 ≤ k) {w : Int} (hw : U32 w) : spliceref01_Sign.f k w 8 = some (sg8 (w % 256)) := by
  obtain ⟨k, rfl⟩ : ∃ m, k = m + 1 := ⟨k - 1, by omega⟩
  unfold spliceref01_Sign.f
  rw [if_neg (by omega)]
  exact rsign_j (power8 (by omega)) (by omega) (by omega) rfl hw
theorem rsign16 {k : Nat} (hk : 41 ≤ k) {w : Int} (hw : U32 w) : spliceref01_Sign.f k w 16 = some (sg16 (w % 65536)) := by
  obtain ⟨k, rfl⟩ : ∃ m, k = m + 1 := ⟨k - 1, by omega⟩
  unfold spliceref01_Sign.f
  rw [if_neg (by omega)]
  exact rsign_j (power16 (by omega)) (by omega) (by omega) rfl hw
theorem rsign24 {k : Nat} (hk : 41 ≤ k) {w : Int} (hw : U32 w) : spliceref01_Sign.f k w 24 = some (sg24 (w % 16777216)) := by
  obtain ⟨k, rfl⟩ : ∃ m, k = m + 1 := ⟨k - 1, by omega⟩
  unfold spliceref01_Sign.f
  rw [if_neg (by omega)]
  exact rsign_j (power24 (by omega)) (by omega) (by omega) rfl hw
end Go.Proofs.Ytcagccodmmcnfaa.Code
