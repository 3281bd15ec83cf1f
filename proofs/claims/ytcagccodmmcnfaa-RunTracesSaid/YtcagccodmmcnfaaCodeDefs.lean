/- The layer 'code' as plain mathematics: right instructions, their words, what words are read as. No program in sight. Own work; a template: 'Ytcagccodmmcnfaa' is a seat's Name, 'Q' the base of its printed texts. -/
import Derived.Test.YtcagccodmmcnfaaHcbd
namespace Go.Proofs.Ytcagccodmmcnfaa.Code
open Go.RowKit Go.Proofs.Ytcagccodmmcnfaa.Q Go.Proofs.YtcagccodmmcnfaaW.PrintWords Go.Proofs.YtcagccodmmcnfaaW.PrintLast Go.Proofs.YtcagccodmmcnfaaW.PrintMore Go.Proofs.Ytcagccodmmcnfaa.Lib
set_option linter.unusedVariables false
set_option linter.unusedSimpArgs false

/-- An instruction is right. -/
def Rt (op a b c imm : Int) : Prop :=
  if 1 ≤ op ∧ op ≤ 7 then (0 ≤ a ∧ a ≤ 15) ∧ (0 ≤ b ∧ b ≤ 15) ∧ (0 ≤ c ∧ c ≤ 15) ∧ imm = 0
  else if op = 8 ∨ 11 ≤ op ∧ op ≤ 14 then (0 ≤ a ∧ a ≤ 15) ∧ (0 ≤ b ∧ b ≤ 15) ∧ c = 0 ∧ -32768 ≤ imm ∧ imm ≤ 32767
  else if op = 10 then (0 ≤ a ∧ a ≤ 15) ∧ (0 ≤ b ∧ b ≤ 15) ∧ c = 0 ∧ 0 ≤ imm ∧ imm ≤ 65535
  else if 15 ≤ op ∧ op ≤ 18 then (0 ≤ a ∧ a ≤ 15) ∧ (0 ≤ b ∧ b ≤ 15) ∧ c = 0 ∧ -128 ≤ imm ∧ imm ≤ 127
  else if op = 9 then (0 ≤ a ∧ a ≤ 15) ∧ b = 0 ∧ c = 0 ∧ 0 ≤ imm ∧ imm ≤ 65535
  else if op = 0 ∨ op = 22 ∨ op = 23 then (0 ≤ a ∧ a ≤ 15) ∧ b = 0 ∧ c = 0 ∧ imm = 0
  else if op = 19 ∨ op = 20 then a = 0 ∧ b = 0 ∧ c = 0 ∧ -8388608 ≤ imm ∧ imm ≤ 8388607
  else if op = 21 ∨ op = 24 ∨ op = 25 then a = 0 ∧ b = 0 ∧ c = 0 ∧ imm = 0
  else False
section
variable {op a b c imm : Int}
theorem rt_three (h : 1 ≤ op ∧ op ≤ 7) : Rt op a b c imm ↔ (0 ≤ a ∧ a ≤ 15) ∧ (0 ≤ b ∧ b ≤ 15) ∧ (0 ≤ c ∧ c ≤ 15) ∧ imm = 0 := by unfold Rt; rw [if_pos h]
theorem rt_near (h : op = 8 ∨ 11 ≤ op ∧ op ≤ 14) : Rt op a b c imm ↔ (0 ≤ a ∧ a ≤ 15) ∧ (0 ≤ b ∧ b ≤ 15) ∧ c = 0 ∧ -32768 ≤ imm ∧ imm ≤ 32767 := by unfold Rt; rw [if_neg (by omega), if_pos h]
theorem rt_10 (h : op = 10) : Rt op a b c imm ↔ (0 ≤ a ∧ a ≤ 15) ∧ (0 ≤ b ∧ b ≤ 15) ∧ c = 0 ∧ 0 ≤ imm ∧ imm ≤ 65535 := by unfold Rt; rw [if_neg (by omega), if_neg (by omega), if_pos h]
theorem rt_branch (h : 15 ≤ op ∧ op ≤ 18) : Rt op a b c imm ↔ (0 ≤ a ∧ a ≤ 15) ∧ (0 ≤ b ∧ b ≤ 15) ∧ c = 0 ∧ -128 ≤ imm ∧ imm ≤ 127 := by unfold Rt; rw [if_neg (by omega), if_neg (by omega), if_neg (by omega), if_pos h]
theorem rt_9 (h : op = 9) : Rt op a b c imm ↔ (0 ≤ a ∧ a ≤ 15) ∧ b = 0 ∧ c = 0 ∧ 0 ≤ imm ∧ imm ≤ 65535 := by unfold Rt; rw [if_neg (by omega), if_neg (by omega), if_neg (by omega), if_neg (by omega), if_pos h]
theorem rt_one (h : op = 0 ∨ op = 22 ∨ op = 23) : Rt op a b c imm ↔ (0 ≤ a ∧ a ≤ 15) ∧ b = 0 ∧ c = 0 ∧ imm = 0 := by unfold Rt; rw [if_neg (by omega), if_neg (by omega), if_neg (by omega), if_neg (by omega), if_neg (by omega), if_pos h]
theorem rt_far (h : op = 19 ∨ op = 20) : Rt op a b c imm ↔ a = 0 ∧ b = 0 ∧ c = 0 ∧ -8388608 ≤ imm ∧ imm ≤ 8388607 := by unfold Rt; rw [if_neg (by omega), if_neg (by omega), if_neg (by omega), if_neg (by omega), if_neg (by omega), if_neg (by omega), if_pos h]
theorem rt_nil (h : op = 21 ∨ op = 24 ∨ op = 25) : Rt op a b c imm ↔ a = 0 ∧ b = 0 ∧ c = 0 ∧ imm = 0 := by unfold Rt; rw [if_neg (by omega), if_neg (by omega), if_neg (by omega), if_neg (by omega), if_neg (by omega), if_neg (by omega), if_neg (by omega), if_pos h]
theorem rt_no (h : op < 0 ∨ 25 < op) : ¬ Rt op a b c imm := by unfold Rt; rw [if_neg (by omega), if_neg (by omega), if_neg (by omega), if_neg (by omega), if_neg (by omega), if_neg (by omega), if_neg (by omega), if_neg (by omega)]; exact id
/-- The kinds, one by one. -/
theorem rt_cases (h : Rt op a b c imm) :
    ((1 ≤ op ∧ op ≤ 7) ∧ (0 ≤ a ∧ a ≤ 15) ∧ (0 ≤ b ∧ b ≤ 15) ∧ (0 ≤ c ∧ c ≤ 15) ∧ imm = 0) ∨
    ((op = 8 ∨ 11 ≤ op ∧ op ≤ 14) ∧ (0 ≤ a ∧ a ≤ 15) ∧ (0 ≤ b ∧ b ≤ 15) ∧ c = 0 ∧ -32768 ≤ imm ∧ imm ≤ 32767) ∨
    (op = 10 ∧ (0 ≤ a ∧ a ≤ 15) ∧ (0 ≤ b ∧ b ≤ 15) ∧ c = 0 ∧ 0 ≤ imm ∧ imm ≤ 65535) ∨
    ((15 ≤ op ∧ op ≤ 18) ∧ (0 ≤ a ∧ a ≤ 15) ∧ (0 ≤ b ∧ b ≤ 15) ∧ c = 0 ∧ -128 ≤ imm ∧ imm ≤ 127) ∨
    (op = 9 ∧ (0 ≤ a ∧ a ≤ 15) ∧ b = 0 ∧ c = 0 ∧ 0 ≤ imm ∧ imm ≤ 65535) ∨
    ((op = 0 ∨ op = 22 ∨ op = 23) ∧ (0 ≤ a ∧ a ≤ 15) ∧ b = 0 ∧ c = 0 ∧ imm = 0) ∨
    ((op = 19 ∨ op = 20) ∧ a = 0 ∧ b = 0 ∧ c = 0 ∧ -8388608 ≤ imm ∧ imm ≤ 8388607) ∨
    ((op = 21 ∨ op = 24 ∨ op = 25) ∧ a = 0 ∧ b = 0 ∧ c = 0 ∧ imm = 0) := by
  by_cases h1 : 1 ≤ op ∧ op ≤ 7
  · exact .inl ⟨h1, (rt_three h1).1 h⟩
  refine .inr ?_
  by_cases h2 : op = 8 ∨ 11 ≤ op ∧ op ≤ 14
  · exact .inl ⟨h2, (rt_near h2).1 h⟩
  refine .inr ?_
  by_cases h3 : op = 10
  · exact .inl ⟨h3, (rt_10 h3).1 h⟩
  refine .inr ?_
  by_cases h4 : 15 ≤ op ∧ op ≤ 18
  · exact .inl ⟨h4, (rt_branch h4).1 h⟩
  refine .inr ?_
  by_cases h5 : op = 9
  · exact .inl ⟨h5, (rt_9 h5).1 h⟩
  refine .inr ?_
  by_cases h6 : op = 0 ∨ op = 22 ∨ op = 23
  · exact .inl ⟨h6, (rt_one h6).1 h⟩
  refine .inr ?_
  by_cases h7 : op = 19 ∨ op = 20
  · exact .inl ⟨h7, (rt_far h7).1 h⟩
  refine .inr ?_
  by_cases h8 : op = 21 ∨ op = 24 ∨ op = 25
  · exact ⟨h8, (rt_nil h8).1 h⟩
  exact absurd h (rt_no (by omega))
theorem rt_regs (h : Rt op a b c imm) : (0 ≤ op ∧ op ≤ 25) ∧ (0 ≤ a ∧ a ≤ 15) ∧ (0 ≤ b ∧ b ≤ 15) ∧ (0 ≤ c ∧ c ≤ 15) ∧ (¬ (1 ≤ op ∧ op ≤ 7) → c = 0) ∧ (-8388608 ≤ imm ∧ imm ≤ 8388607) ∧ (op = 19 ∨ op = 20 → a = 0 ∧ b = 0) ∧ (¬ (8 ≤ op ∧ op ≤ 20) → imm = 0) := by
  rcases rt_cases h with h | h | h | h | h | h | h | h <;> omega
end
noncomputable instance (op a b c imm : Int) : Decidable (Rt op a b c imm) := Classical.propDecidable _
/-- The lowest bits of an instruction's number. -/
def cutI (op imm : Int) : Int := if 15 ≤ op ∧ op ≤ 18 then imm % 256 else if op = 19 ∨ op = 20 then imm % 16777216 else imm % 65536
/-- An instruction's word. -/
def word (op a b c imm : Int) : Int := op * 16777216 + a * 1048576 + b * 65536 + c + cutI op imm

theorem ops (op : Int) (h0 : 0 ≤ op) (h1 : op < 26) : op = 0 ∨ op = 1 ∨ op = 2 ∨ op = 3 ∨ op = 4 ∨ op = 5 ∨ op = 6 ∨ op = 7 ∨ op = 8 ∨ op = 9 ∨ op = 10 ∨ op = 11 ∨ op = 12 ∨ op = 13 ∨ op = 14 ∨ op = 15 ∨ op = 16 ∨ op = 17 ∨ op = 18 ∨ op = 19 ∨ op = 20 ∨ op = 21 ∨ op = 22 ∨ op = 23 ∨ op = 24 ∨ op = 25 := by omega

/-! ### Reading -/
def sg8 (v : Int) : Int := if v < 128 then v else v - 256
def sg16 (v : Int) : Int := if v < 32768 then v else v - 65536
def sg24 (v : Int) : Int := if v < 8388608 then v else v - 16777216
abbrev I5 := Int × Int × Int × Int × Int
/-- The instruction of a word, whose parts are told. -/
def Gt (op a b lo : Int) : Option I5 :=
  if 1 ≤ op ∧ op ≤ 7 then (if lo ≤ 15 then some (op, a, b, lo, 0) else none)
  else if op = 8 ∨ 11 ≤ op ∧ op ≤ 14 then some (op, a, b, 0, sg16 lo)
  else if op = 10 then some (op, a, b, 0, lo)
  else if 15 ≤ op ∧ op ≤ 18 then (if lo ≤ 255 then some (op, a, b, 0, sg8 lo) else none)
  else if op = 9 then (if b = 0 then some (op, a, 0, 0, lo) else none)
  else if op = 0 ∨ op = 22 ∨ op = 23 then (if b = 0 ∧ lo = 0 then some (op, a, 0, 0, 0) else none)
  else if op = 19 ∨ op = 20 then some (op, 0, 0, 0, sg24 (a * 1048576 + b * 65536 + lo))
  else if op = 21 ∨ op = 24 ∨ op = 25 then (if a = 0 ∧ b = 0 ∧ lo = 0 then some (op, 0, 0, 0, 0) else none)
  else none
/-- The instruction of a word. -/
def gW (w : Int) : Option I5 := Gt (w / 16777216) (w / 1048576 % 16) (w / 65536 % 16) (w % 65536)
def getR : Option I5 → Int × Int × Int × Int × Int × Int
  | some (o, a, b, c, i) => (o, a, b, c, i, 0)
  | none => (0, 0, 0, 0, 0, 3)
def getB : Option I5 → Int × Int × Int × Int × Int × Bool
  | some (o, a, b, c, i) => (o, a, b, c, i, true)
  | none => (0, 0, 0, 0, 0, false)

theorem gt_word {op a b lo : Int} {i : I5} (ha : 0 ≤ a ∧ a ≤ 15) (hb : 0 ≤ b ∧ b ≤ 15) (hl : 0 ≤ lo ∧ lo ≤ 65535) (h : Gt op a b lo = some i) :
    Rt i.1 i.2.1 i.2.2.1 i.2.2.2.1 i.2.2.2.2 ∧ word i.1 i.2.1 i.2.2.1 i.2.2.2.1 i.2.2.2.2 = op * 16777216 + a * 1048576 + b * 65536 + lo ∧ i.1 = op := by
  unfold Gt at h
  have go : ∀ (x y z u v : Int), some (x, y, z, u, v) = some i → Rt x y z u v → word x y z u v = op * 16777216 + a * 1048576 + b * 65536 + lo → x = op → Rt i.1 i.2.1 i.2.2.1 i.2.2.2.1 i.2.2.2.2 ∧ word i.1 i.2.1 i.2.2.1 i.2.2.2.1 i.2.2.2.2 = op * 16777216 + a * 1048576 + b * 65536 + lo ∧ i.1 = op := by
    intro x y z u v e hr hw hx
    obtain rfl := Option.some.inj e
    exact ⟨hr, hw, hx⟩
  by_cases g1 : 1 ≤ op ∧ op ≤ 7
  · rw [if_pos g1] at h
    by_cases l : lo ≤ 15
    · rw [if_pos l] at h
      exact go _ _ _ _ _ h ((rt_three g1).2 (by omega)) (by unfold word cutI; rw [if_neg (by omega), if_neg (by omega)]; omega) rfl
    · rw [if_neg l] at h; cases h
  rw [if_neg g1] at h
  by_cases g2 : op = 8 ∨ 11 ≤ op ∧ op ≤ 14
  · rw [if_pos g2] at h
    exact go _ _ _ _ _ h ((rt_near g2).2 (by unfold sg16; split <;> omega)) (by unfold word cutI sg16; rw [if_neg (by omega), if_neg (by omega)]; split <;> omega) rfl
  rw [if_neg g2] at h
  by_cases g3 : op = 10
  · rw [if_pos g3] at h
    exact go _ _ _ _ _ h ((rt_10 g3).2 (by omega)) (by unfold word cutI; rw [if_neg (by omega), if_neg (by omega)]; omega) rfl
  rw [if_neg g3] at h
  by_cases g4 : 15 ≤ op ∧ op ≤ 18
  · rw [if_pos g4] at h
    by_cases l : lo ≤ 255
    · rw [if_pos l] at h
      exact go _ _ _ _ _ h ((rt_branch g4).2 (by unfold sg8; split <;> omega)) (by unfold word cutI sg8; rw [if_pos (by omega)]; split <;> omega) rfl
    · rw [if_neg l] at h; cases h
  rw [if_neg g4] at h
  by_cases g5 : op = 9
  · rw [if_pos g5] at h
    by_cases l : b = 0
    · rw [if_pos l] at h
      exact go _ _ _ _ _ h ((rt_9 g5).2 (by omega)) (by unfold word cutI; rw [if_neg (by omega), if_neg (by omega)]; omega) rfl
    · rw [if_neg l] at h; cases h
  rw [if_neg g5] at h
  by_cases g6 : op = 0 ∨ op = 22 ∨ op = 23
  · rw [if_pos g6] at h
    by_cases l : b = 0 ∧ lo = 0
    · rw [if_pos l] at h
      exact go _ _ _ _ _ h ((rt_one g6).2 (by omega)) (by unfold word cutI; rw [if_neg (by omega), if_neg (by omega)]; omega) rfl
    · rw [if_neg l] at h; cases h
  rw [if_neg g6] at h
  by_cases g7 : op = 19 ∨ op = 20
  · rw [if_pos g7] at h
    exact go _ _ _ _ _ h ((rt_far g7).2 (by unfold sg24; split <;> omega)) (by unfold word cutI sg24; rw [if_neg (by omega), if_pos (by omega)]; split <;> omega) rfl
  rw [if_neg g7] at h
  by_cases g8 : op = 21 ∨ op = 24 ∨ op = 25
  · rw [if_pos g8] at h
    by_cases l : a = 0 ∧ b = 0 ∧ lo = 0
    · rw [if_pos l] at h
      exact go _ _ _ _ _ h ((rt_nil g8).2 (by omega)) (by unfold word cutI; rw [if_neg (by omega), if_neg (by omega)]; omega) rfl
    · rw [if_neg l] at h; cases h
  · rw [if_neg g8] at h; cases h

theorem gW_of {op a b c imm : Int} (A B L : Int) (h0 : 0 ≤ op) (h1 : op ≤ 255) (hA : 0 ≤ A ∧ A ≤ 15) (hB : 0 ≤ B ∧ B ≤ 15) (hL : 0 ≤ L ∧ L ≤ 65535) (e : word op a b c imm = op * 16777216 + A * 1048576 + B * 65536 + L) (g : Gt op A B L = some (op, a, b, c, imm)) : gW (word op a b c imm) = some (op, a, b, c, imm) := by
  unfold gW
  rw [e, show (op * 16777216 + A * 1048576 + B * 65536 + L) / 16777216 = op by omega, show (op * 16777216 + A * 1048576 + B * 65536 + L) / 1048576 % 16 = A by omega, show (op * 16777216 + A * 1048576 + B * 65536 + L) / 65536 % 16 = B by omega, show (op * 16777216 + A * 1048576 + B * 65536 + L) % 65536 = L by omega, g]
theorem gW_word {op a b c imm : Int} (h : Rt op a b c imm) : gW (word op a b c imm) = some (op, a, b, c, imm) := by
  rcases rt_cases h with ⟨g, h⟩ | ⟨g, h⟩ | ⟨g, h⟩ | ⟨g, h⟩ | ⟨g, h⟩ | ⟨g, h⟩ | ⟨g, h⟩ | ⟨g, h⟩
  · refine gW_of a b c (by omega) (by omega) (by omega) (by omega) (by omega) (by unfold word cutI; rw [if_neg (by omega), if_neg (by omega)]; omega) ?_
    unfold Gt
    rw [if_pos g, if_pos (by omega), h.2.2.2]
  · refine gW_of a b (imm % 65536) (by omega) (by omega) (by omega) (by omega) (by omega) (by unfold word cutI; rw [if_neg (by omega), if_neg (by omega)]; omega) ?_
    unfold Gt
    have e : sg16 (imm % 65536) = imm := by unfold sg16; split <;> omega
    rw [if_neg (by omega), if_pos g, e, h.2.2.1]
  · refine gW_of a b imm (by omega) (by omega) (by omega) (by omega) (by omega) (by unfold word cutI; rw [if_neg (by omega), if_neg (by omega)]; omega) ?_
    unfold Gt
    rw [if_neg (by omega), if_neg (by omega), if_pos g, h.2.2.1]
  · refine gW_of a b (imm % 256) (by omega) (by omega) (by omega) (by omega) (by omega) (by unfold word cutI; rw [if_pos g]; omega) ?_
    unfold Gt
    have e : sg8 (imm % 256) = imm := by unfold sg8; split <;> omega
    rw [if_neg (by omega), if_neg (by omega), if_neg (by omega), if_pos g, if_pos (by omega), e, h.2.2.1]
  · refine gW_of a 0 imm (by omega) (by omega) (by omega) (by omega) (by omega) (by unfold word cutI; rw [if_neg (by omega), if_neg (by omega)]; omega) ?_
    unfold Gt
    rw [if_neg (by omega), if_neg (by omega), if_neg (by omega), if_neg (by omega), if_pos g, if_pos rfl, h.2.1, h.2.2.1]
  · refine gW_of a 0 0 (by omega) (by omega) (by omega) (by omega) (by omega) (by unfold word cutI; rw [if_neg (by omega), if_neg (by omega)]; omega) ?_
    unfold Gt
    rw [if_neg (by omega), if_neg (by omega), if_neg (by omega), if_neg (by omega), if_neg (by omega), if_pos g, if_pos ⟨rfl, rfl⟩, h.2.1, h.2.2.1, h.2.2.2]
  · refine gW_of (imm % 16777216 / 1048576) (imm % 16777216 / 65536 % 16) (imm % 65536) (by omega) (by omega) (by omega) (by omega) (by omega) (by unfold word cutI; rw [if_neg (by omega), if_pos g]; omega) ?_
    unfold Gt
    have e : sg24 (imm % 16777216 / 1048576 * 1048576 + imm % 16777216 / 65536 % 16 * 65536 + imm % 65536) = imm := by unfold sg24; split <;> omega
    rw [if_neg (by omega), if_neg (by omega), if_neg (by omega), if_neg (by omega), if_neg (by omega), if_neg (by omega), if_pos g, e, h.1, h.2.1, h.2.2.1]
  · refine gW_of 0 0 0 (by omega) (by omega) (by omega) (by omega) (by omega) (by unfold word cutI; rw [if_neg (by omega), if_neg (by omega)]; omega) ?_
    unfold Gt
    rw [if_neg (by omega), if_neg (by omega), if_neg (by omega), if_neg (by omega), if_neg (by omega), if_neg (by omega), if_neg (by omega), if_pos g, if_pos ⟨rfl, rfl, rfl⟩, h.1, h.2.1, h.2.2.1, h.2.2.2]

theorem parts (w : Int) (h : U32 w) : ∃ op a b lo : Int, (0 ≤ op ∧ op ≤ 255) ∧ (0 ≤ a ∧ a ≤ 15) ∧ (0 ≤ b ∧ b ≤ 15) ∧ (0 ≤ lo ∧ lo ≤ 65535) ∧ w = op * 16777216 + a * 1048576 + b * 65536 + lo ∧ w / 16777216 = op ∧ w / 1048576 % 16 = a ∧ w / 65536 % 16 = b ∧ w % 65536 = lo := by
  unfold U32 at h
  exact ⟨w / 16777216, w / 1048576 % 16, w / 65536 % 16, w % 65536, by omega, by omega, by omega, by omega, by omega, rfl, rfl, rfl, rfl⟩
/-- What a word is read as is right, and its word is the one that was read. -/
theorem gW_some {w : Int} {i : I5} (hw : U32 w) (h : gW w = some i) : Rt i.1 i.2.1 i.2.2.1 i.2.2.2.1 i.2.2.2.2 ∧ word i.1 i.2.1 i.2.2.1 i.2.2.2.1 i.2.2.2.2 = w := by
  obtain ⟨op, a, b, lo, h0, h1, h2, h3, e, e0, e1, e2, e3⟩ := parts w hw
  unfold gW at h
  rw [e0, e1, e2, e3] at h
  obtain ⟨r, hh, _⟩ := gt_word h1 h2 h3 h
  exact ⟨r, hh.trans e.symm⟩
theorem gW_iff {w o a b c i : Int} (hw : U32 w) : gW w = some (o, a, b, c, i) ↔ Rt o a b c i ∧ word o a b c i = w := by
  constructor
  · exact fun h => gW_some hw h
  · rintro ⟨h, rfl⟩
    exact gW_word h

theorem gW_parts {op a b lo : Int} (h : 0 ≤ op ∧ op ≤ 255) (ha : 0 ≤ a ∧ a ≤ 15) (hb : 0 ≤ b ∧ b ≤ 15) (hl : 0 ≤ lo ∧ lo ≤ 65535) : gW (op * 16777216 + a * 1048576 + b * 65536 + lo) = Gt op a b lo := by
  unfold gW
  rw [show (op * 16777216 + a * 1048576 + b * 65536 + lo) / 16777216 = op by omega, show (op * 16777216 + a * 1048576 + b * 65536 + lo) / 1048576 % 16 = a by omega, show (op * 16777216 + a * 1048576 + b * 65536 + lo) / 65536 % 16 = b by omega, show (op * 16777216 + a * 1048576 + b * 65536 + lo) % 65536 = lo by omega]

section
variable {op a b lo : Int}
theorem gt_three (h : 1 ≤ op ∧ op ≤ 7) : Gt op a b lo = if lo ≤ 15 then some (op, a, b, lo, 0) else none := by unfold Gt; rw [if_pos h]
theorem gt_near (h : op = 8 ∨ 11 ≤ op ∧ op ≤ 14) : Gt op a b lo = some (op, a, b, 0, sg16 lo) := by unfold Gt; rw [if_neg (by omega), if_pos h]
theorem gt_10 (h : op = 10) : Gt op a b lo = some (op, a, b, 0, lo) := by unfold Gt; rw [if_neg (by omega), if_neg (by omega), if_pos h]
theorem gt_branch (h : 15 ≤ op ∧ op ≤ 18) : Gt op a b lo = if lo ≤ 255 then some (op, a, b, 0, sg8 lo) else none := by unfold Gt; rw [if_neg (by omega), if_neg (by omega), if_neg (by omega), if_pos h]
theorem gt_9 (h : op = 9) : Gt op a b lo = if b = 0 then some (op, a, 0, 0, lo) else none := by unfold Gt; rw [if_neg (by omega), if_neg (by omega), if_neg (by omega), if_neg (by omega), if_pos h]
theorem gt_one (h : op = 0 ∨ op = 22 ∨ op = 23) : Gt op a b lo = if b = 0 ∧ lo = 0 then some (op, a, 0, 0, 0) else none := by unfold Gt; rw [if_neg (by omega), if_neg (by omega), if_neg (by omega), if_neg (by omega), if_neg (by omega), if_pos h]
theorem gt_far (h : op = 19 ∨ op = 20) : Gt op a b lo = some (op, 0, 0, 0, sg24 (a * 1048576 + b * 65536 + lo)) := by unfold Gt; rw [if_neg (by omega), if_neg (by omega), if_neg (by omega), if_neg (by omega), if_neg (by omega), if_neg (by omega), if_pos h]
theorem gt_nil (h : op = 21 ∨ op = 24 ∨ op = 25) : Gt op a b lo = if a = 0 ∧ b = 0 ∧ lo = 0 then some (op, 0, 0, 0, 0) else none := by unfold Gt; rw [if_neg (by omega), if_neg (by omega), if_neg (by omega), if_neg (by omega), if_neg (by omega), if_neg (by omega), if_neg (by omega), if_pos h]
theorem gt_no (h : op < 0 ∨ 25 < op) : Gt op a b lo = none := by unfold Gt; rw [if_neg (by omega), if_neg (by omega), if_neg (by omega), if_neg (by omega), if_neg (by omega), if_neg (by omega), if_neg (by omega), if_neg (by omega)]
end
theorem op_kind (op : Int) (h : 0 ≤ op ∧ op ≤ 25) : (1 ≤ op ∧ op ≤ 7) ∨ (op = 8 ∨ 11 ≤ op ∧ op ≤ 14) ∨ op = 10 ∨ (15 ≤ op ∧ op ≤ 18) ∨ op = 9 ∨ (op = 0 ∨ op = 22 ∨ op = 23) ∨ (op = 19 ∨ op = 20) ∨ (op = 21 ∨ op = 24 ∨ op = 25) := by omega

theorem rtail {w o a b c i : Int} (hw : U32 w) (h1 : Rt o a b c i → word o a b c i = w) (h2 : ∀ j, gW w = some j → j = (o, a, b, c, i)) :
    (if Rt o a b c i then (some (o, a, b, c, i, true)) else (some (0, 0, 0, 0, 0, false))) = some (getB (gW w)) := by
  by_cases h : Rt o a b c i
  · rw [if_pos h, (gW_iff hw).2 ⟨h, h1 h⟩]
    rfl
  · rw [if_neg h]
    cases hg : gW w with
    | none => rfl
    | some j =>
      obtain rfl := h2 j hg
      exact absurd ((gW_iff hw).1 hg).1 h

/-! ### What the reference reads, kind by kind -/
section
variable {op a b lo w : Int} (ho : 0 ≤ op ∧ op ≤ 255) (ha : 0 ≤ a ∧ a ≤ 15) (hb : 0 ≤ b ∧ b ≤ 15) (hl : 0 ≤ lo ∧ lo ≤ 65535) (hw : w = op * 16777216 + a * 1048576 + b * 65536 + lo)
include ho ha hb hl hw
theorem rk_u : U32 w := by unfold U32; omega
theorem rk_g : gW w = Gt op a b lo := by rw [hw]; exact gW_parts ho ha hb hl
theorem rk_three (g : 1 ≤ op ∧ op ≤ 7) : (if Rt op a b lo 0 then (some (op, a, b, lo, 0, true)) else (some (0, 0, 0, 0, 0, false))) = some (getB (gW w)) := by
  refine rtail (rk_u ho ha hb hl hw) (fun h => ?_) (fun j hj => ?_)
  · unfold word cutI; rw [if_neg (by omega), if_neg (by omega)]; omega
  · rw [rk_g ho ha hb hl hw, gt_three g] at hj
    split at hj
    · exact (Option.some.inj hj).symm
    · cases hj
theorem rk_near (g : op = 8 ∨ 11 ≤ op ∧ op ≤ 14) : (if Rt op a b 0 (sg16 lo) then (some (op, a, b, 0, sg16 lo, true)) else (some (0, 0, 0, 0, 0, false))) = some (getB (gW w)) := by
  refine rtail (rk_u ho ha hb hl hw) (fun h => ?_) (fun j hj => ?_)
  · unfold word cutI sg16; rw [if_neg (by omega), if_neg (by omega)]; split <;> omega
  · rw [rk_g ho ha hb hl hw, gt_near g] at hj
    exact (Option.some.inj hj).symm
theorem rk_branch (g : 15 ≤ op ∧ op ≤ 18) (l : lo ≤ 255) : (if Rt op a b 0 (sg8 lo) then (some (op, a, b, 0, sg8 lo, true)) else (some (0, 0, 0, 0, 0, false))) = some (getB (gW w)) := by
  refine rtail (rk_u ho ha hb hl hw) (fun h => ?_) (fun j hj => ?_)
  · unfold word cutI sg8; rw [if_pos g]; split <;> omega
  · rw [rk_g ho ha hb hl hw, gt_branch g, if_pos l] at hj
    exact (Option.some.inj hj).symm
theorem rk_long (g : 15 ≤ op ∧ op ≤ 18) (l : 255 < lo) : (0, 0, 0, 0, 0, false) = getB (gW w) := by
  rw [rk_g ho ha hb hl hw, gt_branch g, if_neg (by omega)]
  rfl
theorem rk_far (g : op = 19 ∨ op = 20) : (if Rt op 0 0 0 (sg24 (a * 1048576 + b * 65536 + lo)) then (some (op, 0, 0, 0, sg24 (a * 1048576 + b * 65536 + lo), true)) else (some (0, 0, 0, 0, 0, false))) = some (getB (gW w)) := by
  refine rtail (rk_u ho ha hb hl hw) (fun h => ?_) (fun j hj => ?_)
  · unfold word cutI sg24; rw [if_neg (by omega), if_pos g]; split <;> omega
  · rw [rk_g ho ha hb hl hw, gt_far g] at hj
    exact (Option.some.inj hj).symm
theorem rk_other (g1 : ¬ (1 ≤ op ∧ op ≤ 7)) (g2 : ¬ (op = 8 ∨ 11 ≤ op ∧ op ≤ 14)) (g3 : ¬ (15 ≤ op ∧ op ≤ 18)) (g4 : ¬ (op = 19 ∨ op = 20)) : (if Rt op a b 0 lo then (some (op, a, b, 0, lo, true)) else (some (0, 0, 0, 0, 0, false))) = some (getB (gW w)) := by
  by_cases hn : op ≥ 26
  · rw [if_neg (rt_no (by omega)), rk_g ho ha hb hl hw, gt_no (by omega)]
    rfl
  refine rtail (rk_u ho ha hb hl hw) (fun h => ?_) (fun j hj => ?_)
  · unfold word cutI; rw [if_neg (by omega), if_neg (by omega)]; omega
  · rw [rk_g ho ha hb hl hw] at hj
    rcases op_kind op (by omega) with g | g | g | g | g | g | g | g
    · omega
    · omega
    · rw [gt_10 g] at hj
      exact (Option.some.inj hj).symm
    · omega
    · rw [gt_9 g] at hj
      split at hj
      · rename_i h0
        rw [← Option.some.inj hj, h0]
      · cases hj
    · rw [gt_one g] at hj
      split at hj
      · rename_i h0
        rw [← Option.some.inj hj, h0.1, h0.2]
      · cases hj
    · omega
    · rw [gt_nil g] at hj
      split at hj
      · rename_i h0
        rw [← Option.some.inj hj, h0.1, h0.2.1, h0.2.2]
      · cases hj
end

end Go.Proofs.Ytcagccodmmcnfaa.Code
