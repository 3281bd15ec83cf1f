/- The layer 'code': lists of words. Own work; a template. -/
import Derived.Test.YtifineoohopchaaCode
namespace Go.Proofs.Ytifineoohopchaa.Code
open Go.RowKit Go.Proofs.Ytifineoohopchaa.Q Go.Proofs.YtifineoohopchaaW.PrintWords Go.Proofs.YtifineoohopchaaW.PrintLast Go.Proofs.YtifineoohopchaaW.PrintMore Go.Proofs.Ytifineoohopchaa.Lib
set_option linter.unusedVariables false
set_option linter.unusedSimpArgs false

/-- An instruction, as a list holds it. -/
def insOf (i : I5) : S23 := ⟨i.1, i.2.1, i.2.2.1, i.2.2.2.1, i.2.2.2.2⟩
/-- What is read of words, from the i-th on, behind what was read. -/
def allW : List Int → List S23 → Int → List S23 × Int
  | [], acc, _ => (acc, -1)
  | w :: ws, acc, i => match gW w with
    | some j => allW ws (acc ++ [insOf j]) (i + 1)
    | none => ([], i)
theorem rd_drop (l : List Int) (i : Nat) (h : i < l.length) : l.drop i = rd l i :: l.drop (i + 1) := by
  rw [List.drop_eq_getElem_cons h]
  unfold rd
  simp [List.getD_eq_getElem?_getD, h]
theorem rd_mem (l : List Int) (i : Nat) (h : i < l.length) : rd l i ∈ l := by
  unfold rd
  simp [List.getD_eq_getElem?_getD, h]
theorem all_loop (l : List Int) (hl : l.length ≤ 3000000000) (hu : ∀ w ∈ l, U32 w) (d : Nat) : ∀ (k i : Nat) (acc : List S23), i ≤ l.length → l.length - i = d → acc.length = i → d + 2 < k →
    code_All.l0 k acc l (l.length : Int) i = some (allW (l.drop i) acc i) := by
  induction d with
  | zero =>
    intro k i acc h1 h2 h3 hk
    obtain ⟨k, rfl⟩ : ∃ m, k = m + 1 := ⟨k - 1, by omega⟩
    simp only [code_All.l0]
    rw [if_neg (by omega), List.drop_of_length_le (by omega)]
    rfl
  | succ d ih =>
    intro k i acc h1 h2 h3 hk
    obtain ⟨k, rfl⟩ : ∃ m, k = m + 3 := ⟨k - 3, by omega⟩
    have hi : i < l.length := by omega
    simp only [code_All.l0]
    rw [if_pos (by omega), if_pos (by omega), if_pos (by omega), get_eq k (hu _ (rd_mem l i hi)), Option.bind_some, rd_drop l i hi]
    unfold allW
    cases hg : gW (rd l i) with
    | none => rfl
    | some j =>
      obtain ⟨o, a, b, c, m⟩ := j
      simp only [getR]
      rw [if_pos trivial, if_pos (by omega), w64 (by omega) (by omega)]
      exact ih (k + 2) (i + 1) _ (by omega) (by omega) (by simp; omega) (by omega)
theorem rall_loop (l : List Int) (hl : l.length ≤ 3000000000) (hu : ∀ w ∈ l, U32 w) (d : Nat) : ∀ (k i : Nat) (acc : List S23), i ≤ l.length → l.length - i = d → acc.length = i → d + 43 < k →
    spliceref02_All.l0 k l acc i = some (allW (l.drop i) acc i) := by
  induction d with
  | zero =>
    intro k i acc h1 h2 h3 hk
    obtain ⟨k, rfl⟩ : ∃ m, k = m + 1 := ⟨k - 1, by omega⟩
    simp only [spliceref02_All.l0]
    rw [if_neg (by omega), List.drop_of_length_le (by omega)]
    rfl
  | succ d ih =>
    intro k i acc h1 h2 h3 hk
    obtain ⟨k, rfl⟩ : ∃ m, k = m + 1 := ⟨k - 1, by omega⟩
    have hi : i < l.length := by omega
    simp only [spliceref02_All.l0]
    rw [if_pos (by omega), if_pos (by omega), ref_get_eq (hu _ (rd_mem l i hi)), Option.bind_some, rd_drop l i hi]
    unfold allW
    cases hg : gW (rd l i) with
    | none => rfl
    | some j =>
      obtain ⟨o, a, b, c, m⟩ := j
      simp only [getB]
      rw [if_pos trivial, if_pos (by omega), w64 (by omega) (by omega)]
      exact ih k (i + 1) _ (by omega) (by omega) (by simp; omega) (by omega)
theorem all_eq {l : List Int} (hl : l.length ≤ 3000000000) (hu : ∀ w ∈ l, U32 w) {k : Nat} (hk : l.length + 2 < k) : code_All.f k l = some (allW l [] 0) :=
  all_loop l hl hu l.length k 0 [] (by omega) (by omega) rfl hk
theorem ref_all_eq {l : List Int} (hl : l.length ≤ 3000000000) (hu : ∀ w ∈ l, U32 w) {k : Nat} (hk : l.length + 43 < k) : spliceref02_All.f k l = some (allW l [] 0) :=
  rall_loop l hl hu l.length k 0 [] (by omega) (by omega) rfl hk
/-- All words are instructions: they are read, each for itself; else the first that is none is told. -/
theorem allW_len (l : List Int) : ∀ (acc : List S23) (i : Int), (allW l acc i).1.length ≤ acc.length + l.length := by
  induction l with
  | nil => intro acc i; simp [allW]
  | cons w ws ih =>
    intro acc i
    unfold allW
    split
    · have := ih (acc ++ [insOf ‹_›]) (i + 1)
      simp at this ⊢
      omega
    · simp
theorem same_loop (l : List S23) (hl : l.length ≤ 3000000000) (d : Nat) : ∀ (k i : Nat), i ≤ l.length → l.length - i = d → d < k → spliceref02_Same.l0 k l l i = some true := by
  induction d with
  | zero =>
    intro k i h1 h2 hk
    obtain ⟨k, rfl⟩ : ∃ m, k = m + 1 := ⟨k - 1, by omega⟩
    simp only [spliceref02_Same.l0]
    rw [if_neg (by omega)]
  | succ d ih =>
    intro k i h1 h2 hk
    obtain ⟨k, rfl⟩ : ∃ m, k = m + 1 := ⟨k - 1, by omega⟩
    simp only [spliceref02_Same.l0]
    rw [if_pos (by omega), if_pos (by omega), if_pos (by omega), if_neg (by simp), w64 (by omega) (by omega)]
    exact ih k (i + 1) (by omega) (by omega) (by omega)
theorem same_refl {l : List S23} (hl : l.length ≤ 3000000000) {k : Nat} (hk : l.length < k) : spliceref02_Same.f k l l = some true := by
  unfold spliceref02_Same.f
  rw [if_pos rfl]
  exact same_loop l hl l.length k 0 (by omega) (by omega) hk
theorem words_loop (l : List Int) (hl : l.length ≤ 3000000000) (d : Nat) : ∀ (k i : Nat), i ≤ l.length → l.length - i = d → d < k → spliceref01_Words.l0 k l l i = some true := by
  induction d with
  | zero =>
    intro k i h1 h2 hk
    obtain ⟨k, rfl⟩ : ∃ m, k = m + 1 := ⟨k - 1, by omega⟩
    simp only [spliceref01_Words.l0]
    rw [if_neg (by omega)]
  | succ d ih =>
    intro k i h1 h2 hk
    obtain ⟨k, rfl⟩ : ∃ m, k = m + 1 := ⟨k - 1, by omega⟩
    simp only [spliceref01_Words.l0]
    rw [if_pos (by omega), if_pos (by omega), if_pos (by omega), if_pos trivial, w64 (by omega) (by omega)]
    exact ih k (i + 1) (by omega) (by omega) (by omega)
theorem words_refl {l : List Int} (hl : l.length ≤ 3000000000) {k : Nat} (hk : l.length < k) : spliceref01_Words.f k l l = some true := by
  unfold spliceref01_Words.f
  rw [if_pos rfl]
  exact words_loop l hl l.length k 0 (by omega) (by omega) hk
end Go.Proofs.Ytifineoohopchaa.Code
