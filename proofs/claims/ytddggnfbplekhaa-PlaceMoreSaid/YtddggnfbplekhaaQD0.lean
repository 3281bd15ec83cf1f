-- Written by drv.py, a program of this session, over the kit's print, out of the translation. Not trusted: Lean checks it.
import Derived.Test.YtddggnfbplekhaaQ0
import Derived.Test.YtddggnfbplekhaaQF
import Derived.Test.YtddggnfbplekhaaHdd
namespace Go.Proofs.Ytddggnfbplekhaa.Q
open Go.RowKit Go.Proofs.YtddggnfbplekhaaW.PrintWords Go.Proofs.YtddggnfbplekhaaW.PrintLast Go.Proofs.YtddggnfbplekhaaW.PrintMore
attribute [local go_sem] max2_int min2_int max_two min_two max_three min_three max_four min_four   -- for this text's walks alone
set_option linter.unusedVariables false
set_option linter.unusedSimpArgs false

def W71 (x : S71) : Prop := I64 x.f0 ∧ I64 x.f1 ∧ I64 x.f2 ∧ I64 x.f3
def W42 (x : S42) : Prop := x.f0.size ≤ 140737488351232 ∧ True ∧ True ∧ (x.f3.length * 4 ≤ 140737488351232 ∧ ∀ x_ ∈ x.f3, U32 x_) ∧ x.f4.length * 32 ≤ 140737488351232 ∧ ∀ x_ ∈ x.f4, W71 x_
def W39 (x : S39) : Prop := I64 x.f0 ∧ True ∧ I64 x.f2 ∧ (x.f3.length * 1 ≤ 140737488351232 ∧ ∀ x_ ∈ x.f3, U8 x_) ∧ x.f4.length * 32 ≤ 140737488351232 ∧ ∀ x_ ∈ x.f4, W71 x_
def W25 (x : S25) : Prop := (x.f0.length * 72 ≤ 140737488351232 ∧ ∀ x_ ∈ x.f0, W42 x_) ∧ (x.f1.length * 72 ≤ 140737488351232 ∧ ∀ x_ ∈ x.f1, W39 x_) ∧ I64 x.f2
/-! ### place_codes: function 16 -/
mutual
def place_codes.l0 : Nat → List Int → List Int → Int → Int → List (S42) → List (S39) → Int → Option (List Int × Int × Bool)
  | 0, _, _, _, _, _, _, _ => none
  | k + 1, x1, x7, x17, x18, x102000, x102001, x102002 => if x18 < x17 then (if 0 ≤ x18 then (if x18 < (x7.length : Int) then (place_codes.l0 k x1 (x7.set (x18 : Int).toNat (-1)) x17 (wrap64 (x18 + 1)) x102000 x102001 x102002) else (none)) else (none)) else (place_codes.l1 k x7 0 x1 (x1.length : Int) 0 x102000 x102001 x102002)
def place_codes.l1 : Nat → List Int → Int → List Int → Int → Int → List (S42) → List (S39) → Int → Option (List Int × Int × Bool)
  | 0, _, _, _, _, _, _, _, _ => none
  | k + 1, x7, x9, x25, x26, x27, x102000, x102001, x102002 => if x27 < x26 then (if 0 ≤ x27 then (if x27 < (x25.length : Int) then (if (rd x25 x27) < 0 then (some (([] : List Int), 0, false)) else (if (rd x25 x27) ≥ (x7.length : Int) then (some (([] : List Int), 0, false)) else (if 0 ≤ (rd x25 x27) then (if (rd x25 x27) < (x7.length : Int) then (if (rd x7 (rd x25 x27)) ≥ 0 then (some (([] : List Int), 0, false)) else (if (rd x25 x27) < (x102000.length : Int) then (place_codes.l1 k (x7.set ((rd x25 x27) : Int).toNat x9) (wrap64 (x9 + (((rd_T42 x102000 (rd x25 x27)).f3).length : Int))) x25 x26 (wrap64 (x27 + 1)) x102000 x102001 x102002) else (none))) else (none)) else (none)))) else (none)) else (none)) else (if x102002 ≥ 0 then (if x102002 < (x7.length : Int) then (if 0 ≤ x102002 then (some (x7, x9, decide ((rd x7 x102002) ≥ 0))) else (none)) else (some (x7, x9, false))) else (some (x7, x9, false)))
end
def place_codes.f (k : Nat) (l0_0 : List (S42)) (l0_1 : List (S39)) (a0_2 : Int) (l1 : List Int) : Option (List Int × Int × Bool) := if 0 ≤ (l0_0.length : Int) then (if ((l0_0.length : Int) : Int).toNat ≤ 35184372088832 then ((some (List.replicate ((l0_0.length : Int) : Int).toNat 0 : List Int)).bind fun y102 => (place_codes.l0 k l1 y102 (y102.length : Int) 0 l0_0 l0_1 a0_2)) else (none)) else (none)
theorem place_codes.mono_l : ∀ k, (∀ y0 y1 y2 y3 y4 y5 y6, LeO (place_codes.l0 k y0 y1 y2 y3 y4 y5 y6) (place_codes.l0 (k + 1) y0 y1 y2 y3 y4 y5 y6)) ∧ (∀ y0 y1 y2 y3 y4 y5 y6 y7, LeO (place_codes.l1 k y0 y1 y2 y3 y4 y5 y6 y7) (place_codes.l1 (k + 1) y0 y1 y2 y3 y4 y5 y6 y7))
  | 0 => ⟨fun _ _ _ _ _ _ _ r h => by simp [place_codes.l0] at h, fun _ _ _ _ _ _ _ _ r h => by simp [place_codes.l1] at h⟩
  | k + 1 => by
    obtain ⟨ih0, ih1⟩ := place_codes.mono_l k
    refine ⟨?_, ?_⟩
    · intro y0 y1 y2 y3 y4 y5 y6
      unfold place_codes.l0
      repeat' first
      | (with_reducible exact ih0 _ _ _ _ _ _ _)
      | (with_reducible exact ih1 _ _ _ _ _ _ _ _)
      | (with_reducible exact LeO.refl _)
      | (with_reducible exact LeO.none _)
      | (with_reducible refine LeO.ite ?_ ?_)
      | (with_reducible refine LeO.bind ?_ (fun _ => ?_))
      | exact ih0 _ _ _ _ _ _ _
      | exact ih1 _ _ _ _ _ _ _ _
      | exact LeO.none _
      | refine LeO.ite ?_ ?_
      | refine LeO.bind ?_ (fun _ => ?_)
    · intro y0 y1 y2 y3 y4 y5 y6 y7
      unfold place_codes.l1
      repeat' first
      | (with_reducible exact ih0 _ _ _ _ _ _ _)
      | (with_reducible exact ih1 _ _ _ _ _ _ _ _)
      | (with_reducible exact LeO.refl _)
      | (with_reducible exact LeO.none _)
      | (with_reducible refine LeO.ite ?_ ?_)
      | (with_reducible refine LeO.bind ?_ (fun _ => ?_))
      | exact ih0 _ _ _ _ _ _ _
      | exact ih1 _ _ _ _ _ _ _ _
      | exact LeO.none _
      | refine LeO.ite ?_ ?_
      | refine LeO.bind ?_ (fun _ => ?_)
theorem place_codes.mono : ∀ a0 a1 a2 a3 k, LeO (place_codes.f k a0 a1 a2 a3) (place_codes.f (k + 1) a0 a1 a2 a3) := by
  intro a0 a1 a2 a3 k
  obtain ⟨ih0, ih1⟩ := place_codes.mono_l k
  unfold place_codes.f
  repeat' first
      | (with_reducible exact ih0 _ _ _ _ _ _ _)
      | (with_reducible exact ih1 _ _ _ _ _ _ _ _)
      | (with_reducible exact LeO.refl _)
      | (with_reducible exact LeO.none _)
      | (with_reducible refine LeO.ite ?_ ?_)
      | (with_reducible refine LeO.bind ?_ (fun _ => ?_))
      | exact ih0 _ _ _ _ _ _ _
      | exact ih1 _ _ _ _ _ _ _ _
      | exact LeO.none _
      | refine LeO.ite ?_ ?_
      | refine LeO.bind ?_ (fun _ => ?_)
/-! ### bits_Up: function 19 -/
def bits_Up.f (a0 : Int) (a1 : Int) : Option (Int) := if a0 < 0 then (some (-1)) else (if a0 > 1099511627776 then (some (-1)) else (if a1 < 1 then (some (-1)) else (if a1 > 1048576 then (some (-1)) else (if a1 = 0 then (none) else (some (wrap64 ((wrap64 (Int.tdiv (wrap64 ((wrap64 (a0 + a1)) - 1)) a1)) * a1)))))))
/-! ### place_Plan: function 10 -/
def place_Plan.f (k : Nat) (l0_0 : List (S42)) (l0_1 : List (S39)) (a0_2 : Int) (l1 : List Int) : Option (List Int × List Int × Int × Int × Int × Int) := (place_codes.f k l0_0 l0_1 a0_2 l1).bind fun bt113 => (if bt113.2.2 = true then ((place_datas.f l0_0 l0_1 a0_2).bind fun bt118 => (if bt113.2.1 > 65536 then (some (([] : List Int), ([] : List Int), 0, 0, 0, 8)) else (if bt118.2.1 > 65536 then (some (([] : List Int), ([] : List Int), 0, 0, 0, 8)) else (some (bt113.1, bt118.1, bt113.2.1, bt118.2.1, bt118.2.2, 0))))) else (some (([] : List Int), ([] : List Int), 0, 0, 0, 1)))
theorem place_Plan.mono : ∀ a0 a1 a2 a3 k, LeO (place_Plan.f k a0 a1 a2 a3) (place_Plan.f (k + 1) a0 a1 a2 a3) := by
  intro a0 a1 a2 a3 k
  unfold place_Plan.f
  repeat' first
      | (with_reducible exact place_codes.mono _ _ _ _ _)
      | (with_reducible exact LeO.refl _)
      | (with_reducible exact LeO.none _)
      | (with_reducible refine LeO.ite ?_ ?_)
      | (with_reducible refine LeO.bind ?_ (fun _ => ?_))
      | exact place_codes.mono _ _ _ _ _
      | exact LeO.none _
      | refine LeO.ite ?_ ?_
      | refine LeO.bind ?_ (fun _ => ?_)
/-! ### place_All: function 13 -/
def place_All.l0 : Nat → List Int → Int → Int → Option (List Int)
  | 0, _, _, _ => none
  | k + 1, x3, x7, x8 => if x8 < x7 then (if x3.length < 17592186044416 then (place_All.l0 k (x3 ++ [x8]) x7 (wrap64 (x8 + 1))) else (none)) else (some x3)
def place_All.f (k : Nat) (l0_0 : List (S42)) (l0_1 : List (S39)) (a0_2 : Int) : Option (List Int) := place_All.l0 k ([] : List Int) (l0_0.length : Int) 0
theorem place_All.mono_l : ∀ k, (∀ y0 y1 y2, LeO (place_All.l0 k y0 y1 y2) (place_All.l0 (k + 1) y0 y1 y2))
  | 0 => fun _ _ _ r h => by simp [place_All.l0] at h
  | k + 1 => by
    have ih0 := place_All.mono_l k
    · intro y0 y1 y2
      unfold place_All.l0
      repeat' first
      | (with_reducible exact ih0 _ _ _)
      | (with_reducible exact LeO.refl _)
      | (with_reducible exact LeO.none _)
      | (with_reducible refine LeO.ite ?_ ?_)
      | (with_reducible refine LeO.bind ?_ (fun _ => ?_))
      | exact ih0 _ _ _
      | exact LeO.none _
      | refine LeO.ite ?_ ?_
      | refine LeO.bind ?_ (fun _ => ?_)
theorem place_All.mono : ∀ a0 a1 a2 k, LeO (place_All.f k a0 a1 a2) (place_All.f (k + 1) a0 a1 a2) := by
  intro a0 a1 a2 k
  have ih0 := place_All.mono_l k
  unfold place_All.f
  repeat' first
      | (with_reducible exact ih0 _ _ _)
      | (with_reducible exact LeO.refl _)
      | (with_reducible exact LeO.none _)
      | (with_reducible refine LeO.ite ?_ ?_)
      | (with_reducible refine LeO.bind ?_ (fun _ => ?_))
      | exact ih0 _ _ _
      | exact LeO.none _
      | refine LeO.ite ?_ ?_
      | refine LeO.bind ?_ (fun _ => ?_)
/-! ### place_Address: function 15 -/
def place_Address.f (a0 : Int) : Option (Int) := some ((wrap64 (65536 + a0)) % 4294967296)
/-! ### splicelaw12_awake: function 8 -/
def splicelaw12_awake.f (k : Nat)  : Option (Bool) := (some (([(⟨(⟨#[]⟩ : ByteArray), false, false, (([1, 2] : List Int)), ([] : List (S71))⟩ : S42), (⟨(⟨#[]⟩ : ByteArray), false, false, (([3] : List Int)), ([] : List (S71))⟩ : S42)] : List (S42)) : List (S42))).bind fun y133 => ((some (([(⟨1, false, 1, ([] : List Int), ([] : List (S71))⟩ : S39), (⟨4, false, 4, ([] : List Int), ([] : List (S71))⟩ : S39), (⟨1, true, 1, ([] : List Int), ([] : List (S71))⟩ : S39)] : List (S39)) : List (S39))).bind fun y136 => ((place_Plan.f k y133 y136 0 (([1, 0] : List Int))).bind fun bt143 => ((place_Plan.f k y133 y136 0 (([1] : List Int))).bind fun bt157 => ((place_All.f k y133 y136 0).bind fun t168 => (if bt143.2.2.2.2.2 = 0 then (if (bt143.1.length : Int) = 2 then (if 0 < (bt143.1.length : Int) then (if (rd bt143.1 0) = 1 then (if (bt143.2.1.length : Int) = 3 then (if 0 < (bt143.2.1.length : Int) then (if (rd bt143.2.1 0) = 16 then (if 1 < (bt143.2.1.length : Int) then (if (rd bt143.2.1 1) = 20 then (if 2 < (bt143.2.1.length : Int) then (if (rd bt143.2.1 2) = 0 then (if bt143.2.2.2.2.1 = 16 then (if bt143.2.2.1 = 3 then (if bt157.2.2.2.2.2 = 1 then (if (t168.length : Int) = 2 then (if 1 < (t168.length : Int) then (if (rd t168 1) = 1 then ((place_Address.f 4).bind fun t176 => (some (t176 == 65540))) else (none)) else (none)) else (none)) else (none)) else (none)) else (none)) else (none)) else (none)) else (none)) else (none)) else (none)) else (none)) else (none)) else (none)) else (none)) else (none)) else (none))))))
theorem splicelaw12_awake.mono : ∀ k, LeO (splicelaw12_awake.f k ) (splicelaw12_awake.f (k + 1) ) := by
  intro  k
  unfold splicelaw12_awake.f
  repeat' first
      | (with_reducible exact place_All.mono _ _ _ _)
      | (with_reducible exact place_Plan.mono _ _ _ _ _)
      | (with_reducible exact LeO.refl _)
      | (with_reducible exact LeO.none _)
      | (with_reducible refine LeO.ite ?_ ?_)
      | (with_reducible refine LeO.bind ?_ (fun _ => ?_))
      | exact place_All.mono _ _ _ _
      | exact place_Plan.mono _ _ _ _ _
      | exact LeO.none _
      | refine LeO.ite ?_ ?_
      | refine LeO.bind ?_ (fun _ => ?_)
/-! ### spliceref12_May: function 9 -/
mutual
def spliceref12_May.j0 : Nat → Bool → List (S42) → List (S39) → Int → Option (Bool)
  | 0, _, _, _, _ => none
  | k + 1, x15, x178000, x178001, x178002 => if x15 = true then (some false) else (spliceref12_May.l0 k 0 x178000 x178001 x178002)
def spliceref12_May.l0 : Nat → Int → List (S42) → List (S39) → Int → Option (Bool)
  | 0, _, _, _, _ => none
  | k + 1, x3, x178000, x178001, x178002 => if x3 < (x178000.length : Int) then (if 0 ≤ x3 then (if (((rd_T42 x178000 x3).f3).length : Int) > 70000 then (some false) else (if (((rd_T42 x178000 x3).f4).length : Int) > 300 then (some false) else (spliceref12_May.l0 k (wrap64 (x3 + 1)) x178000 x178001 x178002))) else (none)) else (spliceref12_May.l1 k 0 x178000 x178001 x178002)
def spliceref12_May.l1 : Nat → Int → List (S42) → List (S39) → Int → Option (Bool)
  | 0, _, _, _, _ => none
  | k + 1, x4, x178000, x178001, x178002 => if x4 < (x178001.length : Int) then (if 0 ≤ x4 then (if ((rd_T39 x178001 x4).f0) < 1 then (some false) else (if ((rd_T39 x178001 x4).f0) > 16 then (some false) else (if ((rd_T39 x178001 x4).f2) < 1 then (some false) else (if ((rd_T39 x178001 x4).f2) > 4096 then (some false) else (if (((rd_T39 x178001 x4).f3).length : Int) > ((rd_T39 x178001 x4).f2) then (some false) else (if (((rd_T39 x178001 x4).f4).length : Int) > 300 then (some false) else (spliceref12_May.l1 k (wrap64 (x4 + 1)) x178000 x178001 x178002))))))) else (none)) else (some true)
end
def spliceref12_May.f (k : Nat) (l0_0 : List (S42)) (l0_1 : List (S39)) (a0_2 : Int) : Option (Bool) := if (l0_0.length : Int) > 300 then (spliceref12_May.j0 k true l0_0 l0_1 a0_2) else (spliceref12_May.j0 k (decide ((l0_1.length : Int) > 300)) l0_0 l0_1 a0_2)
theorem spliceref12_May.mono_l : ∀ k, (∀ y0 y1 y2 y3, LeO (spliceref12_May.j0 k y0 y1 y2 y3) (spliceref12_May.j0 (k + 1) y0 y1 y2 y3)) ∧ (∀ y0 y1 y2 y3, LeO (spliceref12_May.l0 k y0 y1 y2 y3) (spliceref12_May.l0 (k + 1) y0 y1 y2 y3)) ∧ (∀ y0 y1 y2 y3, LeO (spliceref12_May.l1 k y0 y1 y2 y3) (spliceref12_May.l1 (k + 1) y0 y1 y2 y3))
  | 0 => ⟨fun _ _ _ _ r h => by simp [spliceref12_May.j0] at h, fun _ _ _ _ r h => by simp [spliceref12_May.l0] at h, fun _ _ _ _ r h => by simp [spliceref12_May.l1] at h⟩
  | k + 1 => by
    obtain ⟨ih0, ih1, ih2⟩ := spliceref12_May.mono_l k
    refine ⟨?_, ?_, ?_⟩
    · intro y0 y1 y2 y3
      unfold spliceref12_May.j0
      repeat' first
      | (with_reducible exact ih0 _ _ _ _)
      | (with_reducible exact ih1 _ _ _ _)
      | (with_reducible exact ih2 _ _ _ _)
      | (with_reducible exact LeO.refl _)
      | (with_reducible exact LeO.none _)
      | (with_reducible refine LeO.ite ?_ ?_)
      | (with_reducible refine LeO.bind ?_ (fun _ => ?_))
      | exact ih0 _ _ _ _
      | exact ih1 _ _ _ _
      | exact ih2 _ _ _ _
      | exact LeO.none _
      | refine LeO.ite ?_ ?_
      | refine LeO.bind ?_ (fun _ => ?_)
    · intro y0 y1 y2 y3
      unfold spliceref12_May.l0
      repeat' first
      | (with_reducible exact ih0 _ _ _ _)
      | (with_reducible exact ih1 _ _ _ _)
      | (with_reducible exact ih2 _ _ _ _)
      | (with_reducible exact LeO.refl _)
      | (with_reducible exact LeO.none _)
      | (with_reducible refine LeO.ite ?_ ?_)
      | (with_reducible refine LeO.bind ?_ (fun _ => ?_))
      | exact ih0 _ _ _ _
      | exact ih1 _ _ _ _
      | exact ih2 _ _ _ _
      | exact LeO.none _
      | refine LeO.ite ?_ ?_
      | refine LeO.bind ?_ (fun _ => ?_)
    · intro y0 y1 y2 y3
      unfold spliceref12_May.l1
      repeat' first
      | (with_reducible exact ih0 _ _ _ _)
      | (with_reducible exact ih1 _ _ _ _)
      | (with_reducible exact ih2 _ _ _ _)
      | (with_reducible exact LeO.refl _)
      | (with_reducible exact LeO.none _)
      | (with_reducible refine LeO.ite ?_ ?_)
      | (with_reducible refine LeO.bind ?_ (fun _ => ?_))
      | exact ih0 _ _ _ _
      | exact ih1 _ _ _ _
      | exact ih2 _ _ _ _
      | exact LeO.none _
      | refine LeO.ite ?_ ?_
      | refine LeO.bind ?_ (fun _ => ?_)
theorem spliceref12_May.mono : ∀ a0 a1 a2 k, LeO (spliceref12_May.f k a0 a1 a2) (spliceref12_May.f (k + 1) a0 a1 a2) := by
  intro a0 a1 a2 k
  obtain ⟨ih0, ih1, ih2⟩ := spliceref12_May.mono_l k
  unfold spliceref12_May.f
  repeat' first
      | (with_reducible exact ih0 _ _ _ _)
      | (with_reducible exact ih1 _ _ _ _)
      | (with_reducible exact ih2 _ _ _ _)
      | (with_reducible exact LeO.refl _)
      | (with_reducible exact LeO.none _)
      | (with_reducible refine LeO.ite ?_ ?_)
      | (with_reducible refine LeO.bind ?_ (fun _ => ?_))
      | exact ih0 _ _ _ _
      | exact ih1 _ _ _ _
      | exact ih2 _ _ _ _
      | exact LeO.none _
      | refine LeO.ite ?_ ?_
      | refine LeO.bind ?_ (fun _ => ?_)
/-! ### spliceref12_Plan: function 11 -/
mutual
def spliceref12_Plan.l0 : Nat → List Int → Int → List (S42) → List (S39) → Int → List Int → List Int → Int → Int → Int → Option (List Int × List Int × Int × Int × Int × Int)
  | 0, _, _, _, _, _, _, _, _, _, _ => none
  | k + 1, x1, x7, x183000, x183001, x183002, x191000, x191001, x191002, x191003, x191004 => if x7 < (x183000.length : Int) then (if 0 ≤ x7 then (if x7 < (x191000.length : Int) then (spliceref12_Plan.l0 k x1 (wrap64 (x7 + 1)) x183000 x183001 x183002 (x191000.set (x7 : Int).toNat (-1)) x191001 x191002 x191003 x191004) else (none)) else (none)) else (spliceref12_Plan.l1 k x1 0 x183000 x183001 x183002 x191000 x191001 x191002 x191003 x191004)
def spliceref12_Plan.l1 : Nat → List Int → Int → List (S42) → List (S39) → Int → List Int → List Int → Int → Int → Int → Option (List Int × List Int × Int × Int × Int × Int)
  | 0, _, _, _, _, _, _, _, _, _, _ => none
  | k + 1, x1, x8, x183000, x183001, x183002, x191000, x191001, x191002, x191003, x191004 => if x8 < (x1.length : Int) then (if 0 ≤ x8 then (if (rd x1 x8) < 0 then (some (([] : List Int), ([] : List Int), 0, 0, 0, 1)) else (if (rd x1 x8) ≥ (x183000.length : Int) then (some (([] : List Int), ([] : List Int), 0, 0, 0, 1)) else (if 0 ≤ (rd x1 x8) then (if (rd x1 x8) < (x191000.length : Int) then (if (rd x191000 (rd x1 x8)) = (-1) then (if (rd x1 x8) < (x183000.length : Int) then (spliceref12_Plan.l1 k x1 (wrap64 (x8 + 1)) x183000 x183001 x183002 (x191000.set ((rd x1 x8) : Int).toNat x191002) x191001 (wrap64 (x191002 + (((rd_T42 x183000 (rd x1 x8)).f3).length : Int))) x191003 x191004) else (none)) else (some (([] : List Int), ([] : List Int), 0, 0, 0, 1))) else (none)) else (none)))) else (none)) else (if x183002 < 0 then (spliceref12_Plan.j2 k true x183000 x183001 x183002 x191000 x191001 x191002 x191003 x191004) else (if x183002 ≥ (x183000.length : Int) then (spliceref12_Plan.j2 k true x183000 x183001 x183002 x191000 x191001 x191002 x191003 x191004) else (if 0 ≤ x183002 then (if x183002 < (x191000.length : Int) then (spliceref12_Plan.j2 k ((rd x191000 x183002) == (-1)) x183000 x183001 x183002 x191000 x191001 x191002 x191003 x191004) else (none)) else (none))))
def spliceref12_Plan.j2 : Nat → Bool → List (S42) → List (S39) → Int → List Int → List Int → Int → Int → Int → Option (List Int × List Int × Int × Int × Int × Int)
  | 0, _, _, _, _, _, _, _, _, _ => none
  | k + 1, x96, x183000, x183001, x183002, x191000, x191001, x191002, x191003, x191004 => if x96 = true then (some (([] : List Int), ([] : List Int), 0, 0, 0, 1)) else (spliceref12_Plan.l2 k 0 x183000 x183001 x183002 x191000 x191001 x191002 x191003 x191004)
def spliceref12_Plan.l2 : Nat → Int → List (S42) → List (S39) → Int → List Int → List Int → Int → Int → Int → Option (List Int × List Int × Int × Int × Int × Int)
  | 0, _, _, _, _, _, _, _, _, _ => none
  | k + 1, x10, x183000, x183001, x183002, x191000, x191001, x191002, x191003, x191004 => if x10 < 2 then (if x10 = 1 then (spliceref12_Plan.l3 k x10 x183000 x183001 x183002 x191000 x191001 x191002 x191003 x191004) else (spliceref12_Plan.j5 k x10 x183000 x183001 x183002 x191000 x191001 x191002 x191003 x191004)) else (if x191002 > 65536 then (some (([] : List Int), ([] : List Int), 0, 0, 0, 8)) else (if x191003 > 65536 then (some (([] : List Int), ([] : List Int), 0, 0, 0, 8)) else (some (x191000, x191001, x191002, x191003, x191004, 0))))
def spliceref12_Plan.j5 : Nat → Int → List (S42) → List (S39) → Int → List Int → List Int → Int → Int → Int → Option (List Int × List Int × Int × Int × Int × Int)
  | 0, _, _, _, _, _, _, _, _, _ => none
  | k + 1, x10, x183000, x183001, x183002, x191000, x191001, x191002, x191003, x191004 => spliceref12_Plan.l4 k x10 0 x183000 x183001 x183002 x191000 x191001 x191002 x191003 x191004
def spliceref12_Plan.l4 : Nat → Int → Int → List (S42) → List (S39) → Int → List Int → List Int → Int → Int → Int → Option (List Int × List Int × Int × Int × Int × Int)
  | 0, _, _, _, _, _, _, _, _, _, _ => none
  | k + 1, x10, x11, x183000, x183001, x183002, x191000, x191001, x191002, x191003, x191004 => if x11 < (x183001.length : Int) then (if 0 ≤ x11 then (if (((rd_T39 x183001 x11).f1) == (x10 == 0)) = true then (spliceref12_Plan.l5 k x10 x11 x183000 x183001 x183002 x191000 x191001 x191002 x191003 x191004) else (spliceref12_Plan.l4 k x10 (wrap64 (x11 + 1)) x183000 x183001 x183002 x191000 x191001 x191002 x191003 x191004)) else (none)) else (spliceref12_Plan.l2 k (wrap64 (x10 + 1)) x183000 x183001 x183002 x191000 x191001 x191002 x191003 x191004)
def spliceref12_Plan.l5 : Nat → Int → Int → List (S42) → List (S39) → Int → List Int → List Int → Int → Int → Int → Option (List Int × List Int × Int × Int × Int × Int)
  | 0, _, _, _, _, _, _, _, _, _, _ => none
  | k + 1, x10, x11, x183000, x183001, x183002, x191000, x191001, x191002, x191003, x191004 => if 0 ≤ x11 then (if x11 < (x183001.length : Int) then (if ((rd_T39 x183001 x11).f0) = 0 then (none) else (if (Int.tmod x191003 ((rd_T39 x183001 x11).f0)) = 0 then (if x11 < (x191001.length : Int) then (spliceref12_Plan.l4 k x10 (wrap64 (x11 + 1)) x183000 x183001 x183002 x191000 (x191001.set (x11 : Int).toNat x191003) x191002 (wrap64 (x191003 + ((rd_T39 x183001 x11).f2))) x191004) else (none)) else (spliceref12_Plan.l5 k x10 x11 x183000 x183001 x183002 x191000 x191001 x191002 (wrap64 (x191003 + 1)) x191004))) else (none)) else (none)
def spliceref12_Plan.l3 : Nat → Int → List (S42) → List (S39) → Int → List Int → List Int → Int → Int → Int → Option (List Int × List Int × Int × Int × Int × Int)
  | 0, _, _, _, _, _, _, _, _, _ => none
  | k + 1, x10, x183000, x183001, x183002, x191000, x191001, x191002, x191003, x191004 => if (Int.tmod x191003 16) = 0 then (spliceref12_Plan.j5 k x10 x183000 x183001 x183002 x191000 x191001 x191002 x191003 x191003) else (spliceref12_Plan.l3 k x10 x183000 x183001 x183002 x191000 x191001 x191002 (wrap64 (x191003 + 1)) x191004)
end
def spliceref12_Plan.f (k : Nat) (l0_0 : List (S42)) (l0_1 : List (S39)) (a0_2 : Int) (l1 : List Int) : Option (List Int × List Int × Int × Int × Int × Int) := if 0 ≤ (l0_0.length : Int) then (if ((l0_0.length : Int) : Int).toNat ≤ 35184372088832 then (if 0 ≤ (l0_1.length : Int) then (if ((l0_1.length : Int) : Int).toNat ≤ 35184372088832 then (spliceref12_Plan.l0 k l1 0 l0_0 l0_1 a0_2 (List.replicate ((l0_0.length : Int) : Int).toNat 0) (List.replicate ((l0_1.length : Int) : Int).toNat 0) 0 0 0) else (none)) else (none)) else (none)) else (none)
theorem spliceref12_Plan.mono_l : ∀ k, (∀ y0 y1 y2 y3 y4 y5 y6 y7 y8 y9, LeO (spliceref12_Plan.l0 k y0 y1 y2 y3 y4 y5 y6 y7 y8 y9) (spliceref12_Plan.l0 (k + 1) y0 y1 y2 y3 y4 y5 y6 y7 y8 y9)) ∧ (∀ y0 y1 y2 y3 y4 y5 y6 y7 y8 y9, LeO (spliceref12_Plan.l1 k y0 y1 y2 y3 y4 y5 y6 y7 y8 y9) (spliceref12_Plan.l1 (k + 1) y0 y1 y2 y3 y4 y5 y6 y7 y8 y9)) ∧ (∀ y0 y1 y2 y3 y4 y5 y6 y7 y8, LeO (spliceref12_Plan.j2 k y0 y1 y2 y3 y4 y5 y6 y7 y8) (spliceref12_Plan.j2 (k + 1) y0 y1 y2 y3 y4 y5 y6 y7 y8)) ∧ (∀ y0 y1 y2 y3 y4 y5 y6 y7 y8, LeO (spliceref12_Plan.l2 k y0 y1 y2 y3 y4 y5 y6 y7 y8) (spliceref12_Plan.l2 (k + 1) y0 y1 y2 y3 y4 y5 y6 y7 y8)) ∧ (∀ y0 y1 y2 y3 y4 y5 y6 y7 y8, LeO (spliceref12_Plan.j5 k y0 y1 y2 y3 y4 y5 y6 y7 y8) (spliceref12_Plan.j5 (k + 1) y0 y1 y2 y3 y4 y5 y6 y7 y8)) ∧ (∀ y0 y1 y2 y3 y4 y5 y6 y7 y8 y9, LeO (spliceref12_Plan.l4 k y0 y1 y2 y3 y4 y5 y6 y7 y8 y9) (spliceref12_Plan.l4 (k + 1) y0 y1 y2 y3 y4 y5 y6 y7 y8 y9)) ∧ (∀ y0 y1 y2 y3 y4 y5 y6 y7 y8 y9, LeO (spliceref12_Plan.l5 k y0 y1 y2 y3 y4 y5 y6 y7 y8 y9) (spliceref12_Plan.l5 (k + 1) y0 y1 y2 y3 y4 y5 y6 y7 y8 y9)) ∧ (∀ y0 y1 y2 y3 y4 y5 y6 y7 y8, LeO (spliceref12_Plan.l3 k y0 y1 y2 y3 y4 y5 y6 y7 y8) (spliceref12_Plan.l3 (k + 1) y0 y1 y2 y3 y4 y5 y6 y7 y8))
  | 0 => ⟨fun _ _ _ _ _ _ _ _ _ _ r h => by simp [spliceref12_Plan.l0] at h, fun _ _ _ _ _ _ _ _ _ _ r h => by simp [spliceref12_Plan.l1] at h, fun _ _ _ _ _ _ _ _ _ r h => by simp [spliceref12_Plan.j2] at h, fun _ _ _ _ _ _ _ _ _ r h => by simp [spliceref12_Plan.l2] at h, fun _ _ _ _ _ _ _ _ _ r h => by simp [spliceref12_Plan.j5] at h, fun _ _ _ _ _ _ _ _ _ _ r h => by simp [spliceref12_Plan.l4] at h, fun _ _ _ _ _ _ _ _ _ _ r h => by simp [spliceref12_Plan.l5] at h, fun _ _ _ _ _ _ _ _ _ r h => by simp [spliceref12_Plan.l3] at h⟩
  | k + 1 => by
    obtain ⟨ih0, ih1, ih2, ih3, ih4, ih5, ih6, ih7⟩ := spliceref12_Plan.mono_l k
    refine ⟨?_, ?_, ?_, ?_, ?_, ?_, ?_, ?_⟩
    · intro y0 y1 y2 y3 y4 y5 y6 y7 y8 y9
      unfold spliceref12_Plan.l0
      repeat' first
      | (with_reducible exact ih0 _ _ _ _ _ _ _ _ _ _)
      | (with_reducible exact ih1 _ _ _ _ _ _ _ _ _ _)
      | (with_reducible exact ih2 _ _ _ _ _ _ _ _ _)
      | (with_reducible exact ih3 _ _ _ _ _ _ _ _ _)
      | (with_reducible exact ih4 _ _ _ _ _ _ _ _ _)
      | (with_reducible exact ih5 _ _ _ _ _ _ _ _ _ _)
      | (with_reducible exact ih6 _ _ _ _ _ _ _ _ _ _)
      | (with_reducible exact ih7 _ _ _ _ _ _ _ _ _)
      | (with_reducible exact LeO.refl _)
      | (with_reducible exact LeO.none _)
      | (with_reducible refine LeO.ite ?_ ?_)
      | (with_reducible refine LeO.bind ?_ (fun _ => ?_))
      | exact ih0 _ _ _ _ _ _ _ _ _ _
      | exact ih1 _ _ _ _ _ _ _ _ _ _
      | exact ih2 _ _ _ _ _ _ _ _ _
      | exact ih3 _ _ _ _ _ _ _ _ _
      | exact ih4 _ _ _ _ _ _ _ _ _
      | exact ih5 _ _ _ _ _ _ _ _ _ _
      | exact ih6 _ _ _ _ _ _ _ _ _ _
      | exact ih7 _ _ _ _ _ _ _ _ _
      | exact LeO.none _
      | refine LeO.ite ?_ ?_
      | refine LeO.bind ?_ (fun _ => ?_)
    · intro y0 y1 y2 y3 y4 y5 y6 y7 y8 y9
      unfold spliceref12_Plan.l1
      repeat' first
      | (with_reducible exact ih0 _ _ _ _ _ _ _ _ _ _)
      | (with_reducible exact ih1 _ _ _ _ _ _ _ _ _ _)
      | (with_reducible exact ih2 _ _ _ _ _ _ _ _ _)
      | (with_reducible exact ih3 _ _ _ _ _ _ _ _ _)
      | (with_reducible exact ih4 _ _ _ _ _ _ _ _ _)
      | (with_reducible exact ih5 _ _ _ _ _ _ _ _ _ _)
      | (with_reducible exact ih6 _ _ _ _ _ _ _ _ _ _)
      | (with_reducible exact ih7 _ _ _ _ _ _ _ _ _)
      | (with_reducible exact LeO.refl _)
      | (with_reducible exact LeO.none _)
      | (with_reducible refine LeO.ite ?_ ?_)
      | (with_reducible refine LeO.bind ?_ (fun _ => ?_))
      | exact ih0 _ _ _ _ _ _ _ _ _ _
      | exact ih1 _ _ _ _ _ _ _ _ _ _
      | exact ih2 _ _ _ _ _ _ _ _ _
      | exact ih3 _ _ _ _ _ _ _ _ _
      | exact ih4 _ _ _ _ _ _ _ _ _
      | exact ih5 _ _ _ _ _ _ _ _ _ _
      | exact ih6 _ _ _ _ _ _ _ _ _ _
      | exact ih7 _ _ _ _ _ _ _ _ _
      | exact LeO.none _
      | refine LeO.ite ?_ ?_
      | refine LeO.bind ?_ (fun _ => ?_)
    · intro y0 y1 y2 y3 y4 y5 y6 y7 y8
      unfold spliceref12_Plan.j2
      repeat' first
      | (with_reducible exact ih0 _ _ _ _ _ _ _ _ _ _)
      | (with_reducible exact ih1 _ _ _ _ _ _ _ _ _ _)
      | (with_reducible exact ih2 _ _ _ _ _ _ _ _ _)
      | (with_reducible exact ih3 _ _ _ _ _ _ _ _ _)
      | (with_reducible exact ih4 _ _ _ _ _ _ _ _ _)
      | (with_reducible exact ih5 _ _ _ _ _ _ _ _ _ _)
      | (with_reducible exact ih6 _ _ _ _ _ _ _ _ _ _)
      | (with_reducible exact ih7 _ _ _ _ _ _ _ _ _)
      | (with_reducible exact LeO.refl _)
      | (with_reducible exact LeO.none _)
      | (with_reducible refine LeO.ite ?_ ?_)
      | (with_reducible refine LeO.bind ?_ (fun _ => ?_))
      | exact ih0 _ _ _ _ _ _ _ _ _ _
      | exact ih1 _ _ _ _ _ _ _ _ _ _
      | exact ih2 _ _ _ _ _ _ _ _ _
      | exact ih3 _ _ _ _ _ _ _ _ _
      | exact ih4 _ _ _ _ _ _ _ _ _
      | exact ih5 _ _ _ _ _ _ _ _ _ _
      | exact ih6 _ _ _ _ _ _ _ _ _ _
      | exact ih7 _ _ _ _ _ _ _ _ _
      | exact LeO.none _
      | refine LeO.ite ?_ ?_
      | refine LeO.bind ?_ (fun _ => ?_)
    · intro y0 y1 y2 y3 y4 y5 y6 y7 y8
      unfold spliceref12_Plan.l2
      repeat' first
      | (with_reducible exact ih0 _ _ _ _ _ _ _ _ _ _)
      | (with_reducible exact ih1 _ _ _ _ _ _ _ _ _ _)
      | (with_reducible exact ih2 _ _ _ _ _ _ _ _ _)
      | (with_reducible exact ih3 _ _ _ _ _ _ _ _ _)
      | (with_reducible exact ih4 _ _ _ _ _ _ _ _ _)
      | (with_reducible exact ih5 _ _ _ _ _ _ _ _ _ _)
      | (with_reducible exact ih6 _ _ _ _ _ _ _ _ _ _)
      | (with_reducible exact ih7 _ _ _ _ _ _ _ _ _)
      | (with_reducible exact LeO.refl _)
      | (with_reducible exact LeO.none _)
      | (with_reducible refine LeO.ite ?_ ?_)
      | (with_reducible refine LeO.bind ?_ (fun _ => ?_))
      | exact ih0 _ _ _ _ _ _ _ _ _ _
      | exact ih1 _ _ _ _ _ _ _ _ _ _
      | exact ih2 _ _ _ _ _ _ _ _ _
      | exact ih3 _ _ _ _ _ _ _ _ _
      | exact ih4 _ _ _ _ _ _ _ _ _
      | exact ih5 _ _ _ _ _ _ _ _ _ _
      | exact ih6 _ _ _ _ _ _ _ _ _ _
      | exact ih7 _ _ _ _ _ _ _ _ _
      | exact LeO.none _
      | refine LeO.ite ?_ ?_
      | refine LeO.bind ?_ (fun _ => ?_)
    · intro y0 y1 y2 y3 y4 y5 y6 y7 y8
      unfold spliceref12_Plan.j5
      repeat' first
      | (with_reducible exact ih0 _ _ _ _ _ _ _ _ _ _)
      | (with_reducible exact ih1 _ _ _ _ _ _ _ _ _ _)
      | (with_reducible exact ih2 _ _ _ _ _ _ _ _ _)
      | (with_reducible exact ih3 _ _ _ _ _ _ _ _ _)
      | (with_reducible exact ih4 _ _ _ _ _ _ _ _ _)
      | (with_reducible exact ih5 _ _ _ _ _ _ _ _ _ _)
      | (with_reducible exact ih6 _ _ _ _ _ _ _ _ _ _)
      | (with_reducible exact ih7 _ _ _ _ _ _ _ _ _)
      | (with_reducible exact LeO.refl _)
      | (with_reducible exact LeO.none _)
      | (with_reducible refine LeO.ite ?_ ?_)
      | (with_reducible refine LeO.bind ?_ (fun _ => ?_))
      | exact ih0 _ _ _ _ _ _ _ _ _ _
      | exact ih1 _ _ _ _ _ _ _ _ _ _
      | exact ih2 _ _ _ _ _ _ _ _ _
      | exact ih3 _ _ _ _ _ _ _ _ _
      | exact ih4 _ _ _ _ _ _ _ _ _
      | exact ih5 _ _ _ _ _ _ _ _ _ _
      | exact ih6 _ _ _ _ _ _ _ _ _ _
      | exact ih7 _ _ _ _ _ _ _ _ _
      | exact LeO.none _
      | refine LeO.ite ?_ ?_
      | refine LeO.bind ?_ (fun _ => ?_)
    · intro y0 y1 y2 y3 y4 y5 y6 y7 y8 y9
      unfold spliceref12_Plan.l4
      repeat' first
      | (with_reducible exact ih0 _ _ _ _ _ _ _ _ _ _)
      | (with_reducible exact ih1 _ _ _ _ _ _ _ _ _ _)
      | (with_reducible exact ih2 _ _ _ _ _ _ _ _ _)
      | (with_reducible exact ih3 _ _ _ _ _ _ _ _ _)
      | (with_reducible exact ih4 _ _ _ _ _ _ _ _ _)
      | (with_reducible exact ih5 _ _ _ _ _ _ _ _ _ _)
      | (with_reducible exact ih6 _ _ _ _ _ _ _ _ _ _)
      | (with_reducible exact ih7 _ _ _ _ _ _ _ _ _)
      | (with_reducible exact LeO.refl _)
      | (with_reducible exact LeO.none _)
      | (with_reducible refine LeO.ite ?_ ?_)
      | (with_reducible refine LeO.bind ?_ (fun _ => ?_))
      | exact ih0 _ _ _ _ _ _ _ _ _ _
      | exact ih1 _ _ _ _ _ _ _ _ _ _
      | exact ih2 _ _ _ _ _ _ _ _ _
      | exact ih3 _ _ _ _ _ _ _ _ _
      | exact ih4 _ _ _ _ _ _ _ _ _
      | exact ih5 _ _ _ _ _ _ _ _ _ _
      | exact ih6 _ _ _ _ _ _ _ _ _ _
      | exact ih7 _ _ _ _ _ _ _ _ _
      | exact LeO.none _
      | refine LeO.ite ?_ ?_
      | refine LeO.bind ?_ (fun _ => ?_)
    · intro y0 y1 y2 y3 y4 y5 y6 y7 y8 y9
      unfold spliceref12_Plan.l5
      repeat' first
      | (with_reducible exact ih0 _ _ _ _ _ _ _ _ _ _)
      | (with_reducible exact ih1 _ _ _ _ _ _ _ _ _ _)
      | (with_reducible exact ih2 _ _ _ _ _ _ _ _ _)
      | (with_reducible exact ih3 _ _ _ _ _ _ _ _ _)
      | (with_reducible exact ih4 _ _ _ _ _ _ _ _ _)
      | (with_reducible exact ih5 _ _ _ _ _ _ _ _ _ _)
      | (with_reducible exact ih6 _ _ _ _ _ _ _ _ _ _)
      | (with_reducible exact ih7 _ _ _ _ _ _ _ _ _)
      | (with_reducible exact LeO.refl _)
      | (with_reducible exact LeO.none _)
      | (with_reducible refine LeO.ite ?_ ?_)
      | (with_reducible refine LeO.bind ?_ (fun _ => ?_))
      | exact ih0 _ _ _ _ _ _ _ _ _ _
      | exact ih1 _ _ _ _ _ _ _ _ _ _
      | exact ih2 _ _ _ _ _ _ _ _ _
      | exact ih3 _ _ _ _ _ _ _ _ _
      | exact ih4 _ _ _ _ _ _ _ _ _
      | exact ih5 _ _ _ _ _ _ _ _ _ _
      | exact ih6 _ _ _ _ _ _ _ _ _ _
      | exact ih7 _ _ _ _ _ _ _ _ _
      | exact LeO.none _
      | refine LeO.ite ?_ ?_
      | refine LeO.bind ?_ (fun _ => ?_)
    · intro y0 y1 y2 y3 y4 y5 y6 y7 y8
      unfold spliceref12_Plan.l3
      repeat' first
      | (with_reducible exact ih0 _ _ _ _ _ _ _ _ _ _)
      | (with_reducible exact ih1 _ _ _ _ _ _ _ _ _ _)
      | (with_reducible exact ih2 _ _ _ _ _ _ _ _ _)
      | (with_reducible exact ih3 _ _ _ _ _ _ _ _ _)
      | (with_reducible exact ih4 _ _ _ _ _ _ _ _ _)
      | (with_reducible exact ih5 _ _ _ _ _ _ _ _ _ _)
      | (with_reducible exact ih6 _ _ _ _ _ _ _ _ _ _)
      | (with_reducible exact ih7 _ _ _ _ _ _ _ _ _)
      | (with_reducible exact LeO.refl _)
      | (with_reducible exact LeO.none _)
      | (with_reducible refine LeO.ite ?_ ?_)
      | (with_reducible refine LeO.bind ?_ (fun _ => ?_))
      | exact ih0 _ _ _ _ _ _ _ _ _ _
      | exact ih1 _ _ _ _ _ _ _ _ _ _
      | exact ih2 _ _ _ _ _ _ _ _ _
      | exact ih3 _ _ _ _ _ _ _ _ _
      | exact ih4 _ _ _ _ _ _ _ _ _
      | exact ih5 _ _ _ _ _ _ _ _ _ _
      | exact ih6 _ _ _ _ _ _ _ _ _ _
      | exact ih7 _ _ _ _ _ _ _ _ _
      | exact LeO.none _
      | refine LeO.ite ?_ ?_
      | refine LeO.bind ?_ (fun _ => ?_)
theorem spliceref12_Plan.mono : ∀ a0 a1 a2 a3 k, LeO (spliceref12_Plan.f k a0 a1 a2 a3) (spliceref12_Plan.f (k + 1) a0 a1 a2 a3) := by
  intro a0 a1 a2 a3 k
  obtain ⟨ih0, ih1, ih2, ih3, ih4, ih5, ih6, ih7⟩ := spliceref12_Plan.mono_l k
  unfold spliceref12_Plan.f
  repeat' first
      | (with_reducible exact ih0 _ _ _ _ _ _ _ _ _ _)
      | (with_reducible exact ih1 _ _ _ _ _ _ _ _ _ _)
      | (with_reducible exact ih2 _ _ _ _ _ _ _ _ _)
      | (with_reducible exact ih3 _ _ _ _ _ _ _ _ _)
      | (with_reducible exact ih4 _ _ _ _ _ _ _ _ _)
      | (with_reducible exact ih5 _ _ _ _ _ _ _ _ _ _)
      | (with_reducible exact ih6 _ _ _ _ _ _ _ _ _ _)
      | (with_reducible exact ih7 _ _ _ _ _ _ _ _ _)
      | (with_reducible exact LeO.refl _)
      | (with_reducible exact LeO.none _)
      | (with_reducible refine LeO.ite ?_ ?_)
      | (with_reducible refine LeO.bind ?_ (fun _ => ?_))
      | exact ih0 _ _ _ _ _ _ _ _ _ _
      | exact ih1 _ _ _ _ _ _ _ _ _ _
      | exact ih2 _ _ _ _ _ _ _ _ _
      | exact ih3 _ _ _ _ _ _ _ _ _
      | exact ih4 _ _ _ _ _ _ _ _ _
      | exact ih5 _ _ _ _ _ _ _ _ _ _
      | exact ih6 _ _ _ _ _ _ _ _ _ _
      | exact ih7 _ _ _ _ _ _ _ _ _
      | exact LeO.none _
      | refine LeO.ite ?_ ?_
      | refine LeO.bind ?_ (fun _ => ?_)
/-! ### spliceref03_Ints: function 14 -/
def spliceref03_Ints.l0 : Nat → List Int → List Int → Int → Option (Bool)
  | 0, _, _, _ => none
  | k + 1, x0, x1, x5 => if x5 < (x0.length : Int) then (if 0 ≤ x5 then (if x5 < (x1.length : Int) then (if (rd x0 x5) = (rd x1 x5) then (spliceref03_Ints.l0 k x0 x1 (wrap64 (x5 + 1))) else (some false)) else (none)) else (none)) else (some true)
def spliceref03_Ints.f (k : Nat) (l0 : List Int) (l1 : List Int) : Option (Bool) := if (l0.length : Int) = (l1.length : Int) then (spliceref03_Ints.l0 k l0 l1 0) else (some false)
theorem spliceref03_Ints.mono_l : ∀ k, (∀ y0 y1 y2, LeO (spliceref03_Ints.l0 k y0 y1 y2) (spliceref03_Ints.l0 (k + 1) y0 y1 y2))
  | 0 => fun _ _ _ r h => by simp [spliceref03_Ints.l0] at h
  | k + 1 => by
    have ih0 := spliceref03_Ints.mono_l k
    · intro y0 y1 y2
      unfold spliceref03_Ints.l0
      repeat' first
      | (with_reducible exact ih0 _ _ _)
      | (with_reducible exact LeO.refl _)
      | (with_reducible exact LeO.none _)
      | (with_reducible refine LeO.ite ?_ ?_)
      | (with_reducible refine LeO.bind ?_ (fun _ => ?_))
      | exact ih0 _ _ _
      | exact LeO.none _
      | refine LeO.ite ?_ ?_
      | refine LeO.bind ?_ (fun _ => ?_)
theorem spliceref03_Ints.mono : ∀ a0 a1 k, LeO (spliceref03_Ints.f k a0 a1) (spliceref03_Ints.f (k + 1) a0 a1) := by
  intro a0 a1 k
  have ih0 := spliceref03_Ints.mono_l k
  unfold spliceref03_Ints.f
  repeat' first
      | (with_reducible exact ih0 _ _ _)
      | (with_reducible exact LeO.refl _)
      | (with_reducible exact LeO.none _)
      | (with_reducible refine LeO.ite ?_ ?_)
      | (with_reducible refine LeO.bind ?_ (fun _ => ?_))
      | exact ih0 _ _ _
      | exact LeO.none _
      | refine LeO.ite ?_ ?_
      | refine LeO.bind ?_ (fun _ => ?_)
/-! ### spliceref12_Same: function 12 -/
def spliceref12_Same.f (k : Nat) (l0_0 : List Int) (l0_1 : List Int) (a0_2 : Int) (a0_3 : Int) (a0_4 : Int) (l1_0 : List Int) (l1_1 : List Int) (a1_2 : Int) (a1_3 : Int) (a1_4 : Int) : Option (Bool) := (spliceref03_Ints.f k l0_0 l1_0).bind fun t205 => (if t205 = true then ((spliceref03_Ints.f k l0_1 l1_1).bind fun t206 => (if t206 = true then (if a0_2 = a1_2 then (if a0_3 = a1_3 then (some (a0_4 == a1_4)) else (some false)) else (some false)) else (some false))) else (some false))
theorem spliceref12_Same.mono : ∀ a0 a1 a2 a3 a4 a5 a6 a7 a8 a9 k, LeO (spliceref12_Same.f k a0 a1 a2 a3 a4 a5 a6 a7 a8 a9) (spliceref12_Same.f (k + 1) a0 a1 a2 a3 a4 a5 a6 a7 a8 a9) := by
  intro a0 a1 a2 a3 a4 a5 a6 a7 a8 a9 k
  unfold spliceref12_Same.f
  repeat' first
      | (with_reducible exact spliceref03_Ints.mono _ _ _)
      | (with_reducible exact LeO.refl _)
      | (with_reducible exact LeO.none _)
      | (with_reducible refine LeO.ite ?_ ?_)
      | (with_reducible refine LeO.bind ?_ (fun _ => ?_))
      | exact spliceref03_Ints.mono _ _ _
      | exact LeO.none _
      | refine LeO.ite ?_ ?_
      | refine LeO.bind ?_ (fun _ => ?_)
/-! ### splicelaw12_PlacePlans: function 3 -/
def splicelaw12_PlacePlans.j0 : Nat → List Int → Bool → List (S42) → List (S39) → Int → Option (Bool)
  | 0, _, _, _, _, _ => none
  | k + 1, x1, x20, x208000, x208001, x208002 => if x20 = true then ((splicelaw12_awake.f k).bind fun t210 => (some t210)) else ((place_Plan.f k x208000 x208001 x208002 x1).bind fun bt211 => ((spliceref12_Plan.f k x208000 x208001 x208002 x1).bind fun bt222 => (if bt211.2.2.2.2.2 = bt222.2.2.2.2.2 then ((spliceref12_Same.f k bt211.1 bt211.2.1 bt211.2.2.1 bt211.2.2.2.1 bt211.2.2.2.2.1 bt222.1 bt222.2.1 bt222.2.2.1 bt222.2.2.2.1 bt222.2.2.2.2.1).bind fun t233 => (some t233)) else (none))))
def splicelaw12_PlacePlans.f (k : Nat) (l0_0 : List (S42)) (l0_1 : List (S39)) (a0_2 : Int) (l1 : List Int) : Option (Bool) := (splicelaw12_awake.f k).bind fun t208 => (if t208 = true then ((spliceref12_May.f k l0_0 l0_1 a0_2).bind fun t209 => (if t209 = true then (splicelaw12_PlacePlans.j0 k l1 (decide ((l1.length : Int) > 400)) l0_0 l0_1 a0_2) else (splicelaw12_PlacePlans.j0 k l1 true l0_0 l0_1 a0_2))) else (splicelaw12_PlacePlans.j0 k l1 true l0_0 l0_1 a0_2))
theorem splicelaw12_PlacePlans.mono_l : ∀ k, (∀ y0 y1 y2 y3 y4, LeO (splicelaw12_PlacePlans.j0 k y0 y1 y2 y3 y4) (splicelaw12_PlacePlans.j0 (k + 1) y0 y1 y2 y3 y4))
  | 0 => fun _ _ _ _ _ r h => by simp [splicelaw12_PlacePlans.j0] at h
  | k + 1 => by
    have ih0 := splicelaw12_PlacePlans.mono_l k
    · intro y0 y1 y2 y3 y4
      unfold splicelaw12_PlacePlans.j0
      repeat' first
      | (with_reducible exact ih0 _ _ _ _ _)
      | (with_reducible exact place_Plan.mono _ _ _ _ _)
      | (with_reducible exact splicelaw12_awake.mono _)
      | (with_reducible exact spliceref12_May.mono _ _ _ _)
      | (with_reducible exact spliceref12_Plan.mono _ _ _ _ _)
      | (with_reducible exact spliceref12_Same.mono _ _ _ _ _ _ _ _ _ _ _)
      | (with_reducible exact LeO.refl _)
      | (with_reducible exact LeO.none _)
      | (with_reducible refine LeO.ite ?_ ?_)
      | (with_reducible refine LeO.bind ?_ (fun _ => ?_))
      | exact ih0 _ _ _ _ _
      | exact place_Plan.mono _ _ _ _ _
      | exact splicelaw12_awake.mono _
      | exact spliceref12_May.mono _ _ _ _
      | exact spliceref12_Plan.mono _ _ _ _ _
      | exact spliceref12_Same.mono _ _ _ _ _ _ _ _ _ _ _
      | exact LeO.none _
      | refine LeO.ite ?_ ?_
      | refine LeO.bind ?_ (fun _ => ?_)
theorem splicelaw12_PlacePlans.mono : ∀ a0 a1 a2 a3 k, LeO (splicelaw12_PlacePlans.f k a0 a1 a2 a3) (splicelaw12_PlacePlans.f (k + 1) a0 a1 a2 a3) := by
  intro a0 a1 a2 a3 k
  have ih0 := splicelaw12_PlacePlans.mono_l k
  unfold splicelaw12_PlacePlans.f
  repeat' first
      | (with_reducible exact ih0 _ _ _ _ _)
      | (with_reducible exact place_Plan.mono _ _ _ _ _)
      | (with_reducible exact splicelaw12_awake.mono _)
      | (with_reducible exact spliceref12_May.mono _ _ _ _)
      | (with_reducible exact spliceref12_Plan.mono _ _ _ _ _)
      | (with_reducible exact spliceref12_Same.mono _ _ _ _ _ _ _ _ _ _ _)
      | (with_reducible exact LeO.refl _)
      | (with_reducible exact LeO.none _)
      | (with_reducible refine LeO.ite ?_ ?_)
      | (with_reducible refine LeO.bind ?_ (fun _ => ?_))
      | exact ih0 _ _ _ _ _
      | exact place_Plan.mono _ _ _ _ _
      | exact splicelaw12_awake.mono _
      | exact spliceref12_May.mono _ _ _ _
      | exact spliceref12_Plan.mono _ _ _ _ _
      | exact spliceref12_Same.mono _ _ _ _ _ _ _ _ _ _ _
      | exact LeO.none _
      | refine LeO.ite ?_ ?_
      | refine LeO.bind ?_ (fun _ => ?_)
def splicelaw12_PlacePlans.Pure : Prop := ∀ (x0 : S25) (x1 : List Int), (W25 x0) → (x1.length * 8 ≤ 140737488351232 ∧ ∀ x_ ∈ x1, I64 x_) → ∃ k, splicelaw12_PlacePlans.f k x0.f0 x0.f1 x0.f2 x1 = some true
/-! ### splicelaw12_PlaceApart: function 4 -/
mutual
def splicelaw12_PlaceApart.j0 : Nat → List Int → Bool → List (S42) → List (S39) → Int → Option (Bool)
  | 0, _, _, _, _, _ => none
  | k + 1, x1, x27, x235000, x235001, x235002 => if x27 = true then ((splicelaw12_awake.f k).bind fun t237 => (some t237)) else ((place_Plan.f k x235000 x235001 x235002 x1).bind fun bt238 => (if bt238.2.2.2.2.2 = 0 then (splicelaw12_PlaceApart.l0 k 0 x235000 x235001 x235002 bt238.1 bt238.2.1 bt238.2.2.1 bt238.2.2.2.1 bt238.2.2.2.2.1) else (some true)))
def splicelaw12_PlaceApart.l0 : Nat → Int → List (S42) → List (S39) → Int → List Int → List Int → Int → Int → Int → Option (Bool)
  | 0, _, _, _, _, _, _, _, _, _ => none
  | k + 1, x7, x235000, x235001, x235002, x249000, x249001, x249002, x249003, x249004 => if x7 < (x235001.length : Int) then (if 0 ≤ x7 then (if x7 < (x249001.length : Int) then (if (rd x249001 x7) < 0 then (splicelaw12_PlaceApart.j2 k x7 (rd x249001 x7) true x235000 x235001 x235002 x249000 x249001 x249002 x249003 x249004 ((rd_T39 x235001 x7).f0) ((rd_T39 x235001 x7).f1) ((rd_T39 x235001 x7).f2) ((rd_T39 x235001 x7).f3) ((rd_T39 x235001 x7).f4)) else (if ((rd_T39 x235001 x7).f0) = 0 then (none) else (if (Int.tmod (rd x249001 x7) ((rd_T39 x235001 x7).f0)) = 0 then (if (wrap64 ((rd x249001 x7) + ((rd_T39 x235001 x7).f2))) > x249003 then (splicelaw12_PlaceApart.j2 k x7 (rd x249001 x7) true x235000 x235001 x235002 x249000 x249001 x249002 x249003 x249004 ((rd_T39 x235001 x7).f0) ((rd_T39 x235001 x7).f1) ((rd_T39 x235001 x7).f2) ((rd_T39 x235001 x7).f3) ((rd_T39 x235001 x7).f4)) else (if (rd_T39 x235001 x7).f1 = true then (if (wrap64 ((rd x249001 x7) + ((rd_T39 x235001 x7).f2))) > x249004 then (splicelaw12_PlaceApart.j2 k x7 (rd x249001 x7) true x235000 x235001 x235002 x249000 x249001 x249002 x249003 x249004 ((rd_T39 x235001 x7).f0) ((rd_T39 x235001 x7).f1) ((rd_T39 x235001 x7).f2) ((rd_T39 x235001 x7).f3) ((rd_T39 x235001 x7).f4)) else (if ((rd_T39 x235001 x7).f1 = true) then (splicelaw12_PlaceApart.j2 k x7 (rd x249001 x7) false x235000 x235001 x235002 x249000 x249001 x249002 x249003 x249004 ((rd_T39 x235001 x7).f0) ((rd_T39 x235001 x7).f1) ((rd_T39 x235001 x7).f2) ((rd_T39 x235001 x7).f3) ((rd_T39 x235001 x7).f4)) else (splicelaw12_PlaceApart.j2 k x7 (rd x249001 x7) (decide ((rd x249001 x7) < x249004)) x235000 x235001 x235002 x249000 x249001 x249002 x249003 x249004 ((rd_T39 x235001 x7).f0) ((rd_T39 x235001 x7).f1) ((rd_T39 x235001 x7).f2) ((rd_T39 x235001 x7).f3) ((rd_T39 x235001 x7).f4)))) else (if ((rd_T39 x235001 x7).f1 = true) then (splicelaw12_PlaceApart.j2 k x7 (rd x249001 x7) false x235000 x235001 x235002 x249000 x249001 x249002 x249003 x249004 ((rd_T39 x235001 x7).f0) ((rd_T39 x235001 x7).f1) ((rd_T39 x235001 x7).f2) ((rd_T39 x235001 x7).f3) ((rd_T39 x235001 x7).f4)) else (splicelaw12_PlaceApart.j2 k x7 (rd x249001 x7) (decide ((rd x249001 x7) < x249004)) x235000 x235001 x235002 x249000 x249001 x249002 x249003 x249004 ((rd_T39 x235001 x7).f0) ((rd_T39 x235001 x7).f1) ((rd_T39 x235001 x7).f2) ((rd_T39 x235001 x7).f3) ((rd_T39 x235001 x7).f4))))) else (splicelaw12_PlaceApart.j2 k x7 (rd x249001 x7) true x235000 x235001 x235002 x249000 x249001 x249002 x249003 x249004 ((rd_T39 x235001 x7).f0) ((rd_T39 x235001 x7).f1) ((rd_T39 x235001 x7).f2) ((rd_T39 x235001 x7).f3) ((rd_T39 x235001 x7).f4))))) else (none)) else (none)) else (splicelaw12_PlaceApart.l2 k 0 0 x235000 x235001 x235002 x249000 x249001 x249002 x249003 x249004)
def splicelaw12_PlaceApart.j2 : Nat → Int → Int → Bool → List (S42) → List (S39) → Int → List Int → List Int → Int → Int → Int → Int → Bool → Int → List Int → List (S71) → Option (Bool)
  | 0, _, _, _, _, _, _, _, _, _, _, _, _, _, _, _, _ => none
  | k + 1, x7, x9, x95, x235000, x235001, x235002, x249000, x249001, x249002, x249003, x249004, x251000, x251001, x251002, x251003, x251004 => if x95 = true then (none) else (splicelaw12_PlaceApart.l1 k x7 x9 0 x235000 x235001 x235002 x249000 x249001 x249002 x249003 x249004 x251000 x251001 x251002 x251003 x251004)
def splicelaw12_PlaceApart.l1 : Nat → Int → Int → Int → List (S42) → List (S39) → Int → List Int → List Int → Int → Int → Int → Int → Bool → Int → List Int → List (S71) → Option (Bool)
  | 0, _, _, _, _, _, _, _, _, _, _, _, _, _, _, _, _ => none
  | k + 1, x7, x9, x10, x235000, x235001, x235002, x249000, x249001, x249002, x249003, x249004, x251000, x251001, x251002, x251003, x251004 => if x10 < x7 then (if 0 ≤ x10 then (if x10 < (x249001.length : Int) then (if x10 < (x235001.length : Int) then (if x9 < (wrap64 ((rd x249001 x10) + ((rd_T39 x235001 x10).f2))) then (if (rd x249001 x10) < (wrap64 (x9 + x251002)) then (none) else (splicelaw12_PlaceApart.l1 k x7 x9 (wrap64 (x10 + 1)) x235000 x235001 x235002 x249000 x249001 x249002 x249003 x249004 x251000 x251001 x251002 x251003 x251004)) else (splicelaw12_PlaceApart.l1 k x7 x9 (wrap64 (x10 + 1)) x235000 x235001 x235002 x249000 x249001 x249002 x249003 x249004 x251000 x251001 x251002 x251003 x251004)) else (none)) else (none)) else (none)) else (splicelaw12_PlaceApart.l0 k (wrap64 (x7 + 1)) x235000 x235001 x235002 x249000 x249001 x249002 x249003 x249004)
def splicelaw12_PlaceApart.l2 : Nat → Int → Int → List (S42) → List (S39) → Int → List Int → List Int → Int → Int → Int → Option (Bool)
  | 0, _, _, _, _, _, _, _, _, _, _ => none
  | k + 1, x11, x12, x235000, x235001, x235002, x249000, x249001, x249002, x249003, x249004 => if x12 < (x235000.length : Int) then (if 0 ≤ x12 then (if x12 < (x249000.length : Int) then (if (rd x249000 x12) < 0 then (splicelaw12_PlaceApart.l2 k x11 (wrap64 (x12 + 1)) x235000 x235001 x235002 x249000 x249001 x249002 x249003 x249004) else (splicelaw12_PlaceApart.l3 k (wrap64 (x11 + (((rd_T42 x235000 x12).f3).length : Int))) x12 (rd x249000 x12) 0 x235000 x235001 x235002 x249000 x249001 x249002 x249003 x249004)) else (none)) else (none)) else (if x11 = x249002 then (some ((Int.tmod x249004 16) == 0)) else (none))
def splicelaw12_PlaceApart.l3 : Nat → Int → Int → Int → Int → List (S42) → List (S39) → Int → List Int → List Int → Int → Int → Int → Option (Bool)
  | 0, _, _, _, _, _, _, _, _, _, _, _, _ => none
  | k + 1, x11, x12, x13, x14, x235000, x235001, x235002, x249000, x249001, x249002, x249003, x249004 => if x14 < x12 then (if 0 ≤ x14 then (if x14 < (x249000.length : Int) then (if (rd x249000 x14) ≥ 0 then (if x14 < (x235000.length : Int) then (if x13 < (wrap64 ((rd x249000 x14) + (((rd_T42 x235000 x14).f3).length : Int))) then (if 0 ≤ x12 then (if x12 < (x235000.length : Int) then (if (rd x249000 x14) < (wrap64 (x13 + (((rd_T42 x235000 x12).f3).length : Int))) then (none) else (splicelaw12_PlaceApart.l3 k x11 x12 x13 (wrap64 (x14 + 1)) x235000 x235001 x235002 x249000 x249001 x249002 x249003 x249004)) else (none)) else (none)) else (splicelaw12_PlaceApart.l3 k x11 x12 x13 (wrap64 (x14 + 1)) x235000 x235001 x235002 x249000 x249001 x249002 x249003 x249004)) else (none)) else (splicelaw12_PlaceApart.l3 k x11 x12 x13 (wrap64 (x14 + 1)) x235000 x235001 x235002 x249000 x249001 x249002 x249003 x249004)) else (none)) else (none)) else (splicelaw12_PlaceApart.l2 k x11 (wrap64 (x12 + 1)) x235000 x235001 x235002 x249000 x249001 x249002 x249003 x249004)
end
def splicelaw12_PlaceApart.f (k : Nat) (l0_0 : List (S42)) (l0_1 : List (S39)) (a0_2 : Int) (l1 : List Int) : Option (Bool) := (splicelaw12_awake.f k).bind fun t235 => (if t235 = true then ((spliceref12_May.f k l0_0 l0_1 a0_2).bind fun t236 => (if t236 = true then (splicelaw12_PlaceApart.j0 k l1 (decide ((l1.length : Int) > 400)) l0_0 l0_1 a0_2) else (splicelaw12_PlaceApart.j0 k l1 true l0_0 l0_1 a0_2))) else (splicelaw12_PlaceApart.j0 k l1 true l0_0 l0_1 a0_2))
theorem splicelaw12_PlaceApart.mono_l : ∀ k, (∀ y0 y1 y2 y3 y4, LeO (splicelaw12_PlaceApart.j0 k y0 y1 y2 y3 y4) (splicelaw12_PlaceApart.j0 (k + 1) y0 y1 y2 y3 y4)) ∧ (∀ y0 y1 y2 y3 y4 y5 y6 y7 y8, LeO (splicelaw12_PlaceApart.l0 k y0 y1 y2 y3 y4 y5 y6 y7 y8) (splicelaw12_PlaceApart.l0 (k + 1) y0 y1 y2 y3 y4 y5 y6 y7 y8)) ∧ (∀ y0 y1 y2 y3 y4 y5 y6 y7 y8 y9 y10 y11 y12 y13 y14 y15, LeO (splicelaw12_PlaceApart.j2 k y0 y1 y2 y3 y4 y5 y6 y7 y8 y9 y10 y11 y12 y13 y14 y15) (splicelaw12_PlaceApart.j2 (k + 1) y0 y1 y2 y3 y4 y5 y6 y7 y8 y9 y10 y11 y12 y13 y14 y15)) ∧ (∀ y0 y1 y2 y3 y4 y5 y6 y7 y8 y9 y10 y11 y12 y13 y14 y15, LeO (splicelaw12_PlaceApart.l1 k y0 y1 y2 y3 y4 y5 y6 y7 y8 y9 y10 y11 y12 y13 y14 y15) (splicelaw12_PlaceApart.l1 (k + 1) y0 y1 y2 y3 y4 y5 y6 y7 y8 y9 y10 y11 y12 y13 y14 y15)) ∧ (∀ y0 y1 y2 y3 y4 y5 y6 y7 y8 y9, LeO (splicelaw12_PlaceApart.l2 k y0 y1 y2 y3 y4 y5 y6 y7 y8 y9) (splicelaw12_PlaceApart.l2 (k + 1) y0 y1 y2 y3 y4 y5 y6 y7 y8 y9)) ∧ (∀ y0 y1 y2 y3 y4 y5 y6 y7 y8 y9 y10 y11, LeO (splicelaw12_PlaceApart.l3 k y0 y1 y2 y3 y4 y5 y6 y7 y8 y9 y10 y11) (splicelaw12_PlaceApart.l3 (k + 1) y0 y1 y2 y3 y4 y5 y6 y7 y8 y9 y10 y11))
  | 0 => ⟨fun _ _ _ _ _ r h => by simp [splicelaw12_PlaceApart.j0] at h, fun _ _ _ _ _ _ _ _ _ r h => by simp [splicelaw12_PlaceApart.l0] at h, fun _ _ _ _ _ _ _ _ _ _ _ _ _ _ _ _ r h => by simp [splicelaw12_PlaceApart.j2] at h, fun _ _ _ _ _ _ _ _ _ _ _ _ _ _ _ _ r h => by simp [splicelaw12_PlaceApart.l1] at h, fun _ _ _ _ _ _ _ _ _ _ r h => by simp [splicelaw12_PlaceApart.l2] at h, fun _ _ _ _ _ _ _ _ _ _ _ _ r h => by simp [splicelaw12_PlaceApart.l3] at h⟩
  | k + 1 => by
    obtain ⟨ih0, ih1, ih2, ih3, ih4, ih5⟩ := splicelaw12_PlaceApart.mono_l k
    refine ⟨?_, ?_, ?_, ?_, ?_, ?_⟩
    · intro y0 y1 y2 y3 y4
      unfold splicelaw12_PlaceApart.j0
      repeat' first
      | (with_reducible exact ih0 _ _ _ _ _)
      | (with_reducible exact ih1 _ _ _ _ _ _ _ _ _)
      | (with_reducible exact ih2 _ _ _ _ _ _ _ _ _ _ _ _ _ _ _ _)
      | (with_reducible exact ih3 _ _ _ _ _ _ _ _ _ _ _ _ _ _ _ _)
      | (with_reducible exact ih4 _ _ _ _ _ _ _ _ _ _)
      | (with_reducible exact ih5 _ _ _ _ _ _ _ _ _ _ _ _)
      | (with_reducible exact place_Plan.mono _ _ _ _ _)
      | (with_reducible exact splicelaw12_awake.mono _)
      | (with_reducible exact spliceref12_May.mono _ _ _ _)
      | (with_reducible exact LeO.refl _)
      | (with_reducible exact LeO.none _)
      | (with_reducible refine LeO.ite ?_ ?_)
      | (with_reducible refine LeO.bind ?_ (fun _ => ?_))
      | exact ih0 _ _ _ _ _
      | exact ih1 _ _ _ _ _ _ _ _ _
      | exact ih2 _ _ _ _ _ _ _ _ _ _ _ _ _ _ _ _
      | exact ih3 _ _ _ _ _ _ _ _ _ _ _ _ _ _ _ _
      | exact ih4 _ _ _ _ _ _ _ _ _ _
      | exact ih5 _ _ _ _ _ _ _ _ _ _ _ _
      | exact place_Plan.mono _ _ _ _ _
      | exact splicelaw12_awake.mono _
      | exact spliceref12_May.mono _ _ _ _
      | exact LeO.none _
      | refine LeO.ite ?_ ?_
      | refine LeO.bind ?_ (fun _ => ?_)
    · intro y0 y1 y2 y3 y4 y5 y6 y7 y8
      unfold splicelaw12_PlaceApart.l0
      repeat' first
      | (with_reducible exact ih0 _ _ _ _ _)
      | (with_reducible exact ih1 _ _ _ _ _ _ _ _ _)
      | (with_reducible exact ih2 _ _ _ _ _ _ _ _ _ _ _ _ _ _ _ _)
      | (with_reducible exact ih3 _ _ _ _ _ _ _ _ _ _ _ _ _ _ _ _)
      | (with_reducible exact ih4 _ _ _ _ _ _ _ _ _ _)
      | (with_reducible exact ih5 _ _ _ _ _ _ _ _ _ _ _ _)
      | (with_reducible exact place_Plan.mono _ _ _ _ _)
      | (with_reducible exact splicelaw12_awake.mono _)
      | (with_reducible exact spliceref12_May.mono _ _ _ _)
      | (with_reducible exact LeO.refl _)
      | (with_reducible exact LeO.none _)
      | (with_reducible refine LeO.ite ?_ ?_)
      | (with_reducible refine LeO.bind ?_ (fun _ => ?_))
      | exact ih0 _ _ _ _ _
      | exact ih1 _ _ _ _ _ _ _ _ _
      | exact ih2 _ _ _ _ _ _ _ _ _ _ _ _ _ _ _ _
      | exact ih3 _ _ _ _ _ _ _ _ _ _ _ _ _ _ _ _
      | exact ih4 _ _ _ _ _ _ _ _ _ _
      | exact ih5 _ _ _ _ _ _ _ _ _ _ _ _
      | exact place_Plan.mono _ _ _ _ _
      | exact splicelaw12_awake.mono _
      | exact spliceref12_May.mono _ _ _ _
      | exact LeO.none _
      | refine LeO.ite ?_ ?_
      | refine LeO.bind ?_ (fun _ => ?_)
    · intro y0 y1 y2 y3 y4 y5 y6 y7 y8 y9 y10 y11 y12 y13 y14 y15
      unfold splicelaw12_PlaceApart.j2
      repeat' first
      | (with_reducible exact ih0 _ _ _ _ _)
      | (with_reducible exact ih1 _ _ _ _ _ _ _ _ _)
      | (with_reducible exact ih2 _ _ _ _ _ _ _ _ _ _ _ _ _ _ _ _)
      | (with_reducible exact ih3 _ _ _ _ _ _ _ _ _ _ _ _ _ _ _ _)
      | (with_reducible exact ih4 _ _ _ _ _ _ _ _ _ _)
      | (with_reducible exact ih5 _ _ _ _ _ _ _ _ _ _ _ _)
      | (with_reducible exact place_Plan.mono _ _ _ _ _)
      | (with_reducible exact splicelaw12_awake.mono _)
      | (with_reducible exact spliceref12_May.mono _ _ _ _)
      | (with_reducible exact LeO.refl _)
      | (with_reducible exact LeO.none _)
      | (with_reducible refine LeO.ite ?_ ?_)
      | (with_reducible refine LeO.bind ?_ (fun _ => ?_))
      | exact ih0 _ _ _ _ _
      | exact ih1 _ _ _ _ _ _ _ _ _
      | exact ih2 _ _ _ _ _ _ _ _ _ _ _ _ _ _ _ _
      | exact ih3 _ _ _ _ _ _ _ _ _ _ _ _ _ _ _ _
      | exact ih4 _ _ _ _ _ _ _ _ _ _
      | exact ih5 _ _ _ _ _ _ _ _ _ _ _ _
      | exact place_Plan.mono _ _ _ _ _
      | exact splicelaw12_awake.mono _
      | exact spliceref12_May.mono _ _ _ _
      | exact LeO.none _
      | refine LeO.ite ?_ ?_
      | refine LeO.bind ?_ (fun _ => ?_)
    · intro y0 y1 y2 y3 y4 y5 y6 y7 y8 y9 y10 y11 y12 y13 y14 y15
      unfold splicelaw12_PlaceApart.l1
      repeat' first
      | (with_reducible exact ih0 _ _ _ _ _)
      | (with_reducible exact ih1 _ _ _ _ _ _ _ _ _)
      | (with_reducible exact ih2 _ _ _ _ _ _ _ _ _ _ _ _ _ _ _ _)
      | (with_reducible exact ih3 _ _ _ _ _ _ _ _ _ _ _ _ _ _ _ _)
      | (with_reducible exact ih4 _ _ _ _ _ _ _ _ _ _)
      | (with_reducible exact ih5 _ _ _ _ _ _ _ _ _ _ _ _)
      | (with_reducible exact place_Plan.mono _ _ _ _ _)
      | (with_reducible exact splicelaw12_awake.mono _)
      | (with_reducible exact spliceref12_May.mono _ _ _ _)
      | (with_reducible exact LeO.refl _)
      | (with_reducible exact LeO.none _)
      | (with_reducible refine LeO.ite ?_ ?_)
      | (with_reducible refine LeO.bind ?_ (fun _ => ?_))
      | exact ih0 _ _ _ _ _
      | exact ih1 _ _ _ _ _ _ _ _ _
      | exact ih2 _ _ _ _ _ _ _ _ _ _ _ _ _ _ _ _
      | exact ih3 _ _ _ _ _ _ _ _ _ _ _ _ _ _ _ _
      | exact ih4 _ _ _ _ _ _ _ _ _ _
      | exact ih5 _ _ _ _ _ _ _ _ _ _ _ _
      | exact place_Plan.mono _ _ _ _ _
      | exact splicelaw12_awake.mono _
      | exact spliceref12_May.mono _ _ _ _
      | exact LeO.none _
      | refine LeO.ite ?_ ?_
      | refine LeO.bind ?_ (fun _ => ?_)
    · intro y0 y1 y2 y3 y4 y5 y6 y7 y8 y9
      unfold splicelaw12_PlaceApart.l2
      repeat' first
      | (with_reducible exact ih0 _ _ _ _ _)
      | (with_reducible exact ih1 _ _ _ _ _ _ _ _ _)
      | (with_reducible exact ih2 _ _ _ _ _ _ _ _ _ _ _ _ _ _ _ _)
      | (with_reducible exact ih3 _ _ _ _ _ _ _ _ _ _ _ _ _ _ _ _)
      | (with_reducible exact ih4 _ _ _ _ _ _ _ _ _ _)
      | (with_reducible exact ih5 _ _ _ _ _ _ _ _ _ _ _ _)
      | (with_reducible exact place_Plan.mono _ _ _ _ _)
      | (with_reducible exact splicelaw12_awake.mono _)
      | (with_reducible exact spliceref12_May.mono _ _ _ _)
      | (with_reducible exact LeO.refl _)
      | (with_reducible exact LeO.none _)
      | (with_reducible refine LeO.ite ?_ ?_)
      | (with_reducible refine LeO.bind ?_ (fun _ => ?_))
      | exact ih0 _ _ _ _ _
      | exact ih1 _ _ _ _ _ _ _ _ _
      | exact ih2 _ _ _ _ _ _ _ _ _ _ _ _ _ _ _ _
      | exact ih3 _ _ _ _ _ _ _ _ _ _ _ _ _ _ _ _
      | exact ih4 _ _ _ _ _ _ _ _ _ _
      | exact ih5 _ _ _ _ _ _ _ _ _ _ _ _
      | exact place_Plan.mono _ _ _ _ _
      | exact splicelaw12_awake.mono _
      | exact spliceref12_May.mono _ _ _ _
      | exact LeO.none _
      | refine LeO.ite ?_ ?_
      | refine LeO.bind ?_ (fun _ => ?_)
    · intro y0 y1 y2 y3 y4 y5 y6 y7 y8 y9 y10 y11
      unfold splicelaw12_PlaceApart.l3
      repeat' first
      | (with_reducible exact ih0 _ _ _ _ _)
      | (with_reducible exact ih1 _ _ _ _ _ _ _ _ _)
      | (with_reducible exact ih2 _ _ _ _ _ _ _ _ _ _ _ _ _ _ _ _)
      | (with_reducible exact ih3 _ _ _ _ _ _ _ _ _ _ _ _ _ _ _ _)
      | (with_reducible exact ih4 _ _ _ _ _ _ _ _ _ _)
      | (with_reducible exact ih5 _ _ _ _ _ _ _ _ _ _ _ _)
      | (with_reducible exact place_Plan.mono _ _ _ _ _)
      | (with_reducible exact splicelaw12_awake.mono _)
      | (with_reducible exact spliceref12_May.mono _ _ _ _)
      | (with_reducible exact LeO.refl _)
      | (with_reducible exact LeO.none _)
      | (with_reducible refine LeO.ite ?_ ?_)
      | (with_reducible refine LeO.bind ?_ (fun _ => ?_))
      | exact ih0 _ _ _ _ _
      | exact ih1 _ _ _ _ _ _ _ _ _
      | exact ih2 _ _ _ _ _ _ _ _ _ _ _ _ _ _ _ _
      | exact ih3 _ _ _ _ _ _ _ _ _ _ _ _ _ _ _ _
      | exact ih4 _ _ _ _ _ _ _ _ _ _
      | exact ih5 _ _ _ _ _ _ _ _ _ _ _ _
      | exact place_Plan.mono _ _ _ _ _
      | exact splicelaw12_awake.mono _
      | exact spliceref12_May.mono _ _ _ _
      | exact LeO.none _
      | refine LeO.ite ?_ ?_
      | refine LeO.bind ?_ (fun _ => ?_)
theorem splicelaw12_PlaceApart.mono : ∀ a0 a1 a2 a3 k, LeO (splicelaw12_PlaceApart.f k a0 a1 a2 a3) (splicelaw12_PlaceApart.f (k + 1) a0 a1 a2 a3) := by
  intro a0 a1 a2 a3 k
  obtain ⟨ih0, ih1, ih2, ih3, ih4, ih5⟩ := splicelaw12_PlaceApart.mono_l k
  unfold splicelaw12_PlaceApart.f
  repeat' first
      | (with_reducible exact ih0 _ _ _ _ _)
      | (with_reducible exact ih1 _ _ _ _ _ _ _ _ _)
      | (with_reducible exact ih2 _ _ _ _ _ _ _ _ _ _ _ _ _ _ _ _)
      | (with_reducible exact ih3 _ _ _ _ _ _ _ _ _ _ _ _ _ _ _ _)
      | (with_reducible exact ih4 _ _ _ _ _ _ _ _ _ _)
      | (with_reducible exact ih5 _ _ _ _ _ _ _ _ _ _ _ _)
      | (with_reducible exact place_Plan.mono _ _ _ _ _)
      | (with_reducible exact splicelaw12_awake.mono _)
      | (with_reducible exact spliceref12_May.mono _ _ _ _)
      | (with_reducible exact LeO.refl _)
      | (with_reducible exact LeO.none _)
      | (with_reducible refine LeO.ite ?_ ?_)
      | (with_reducible refine LeO.bind ?_ (fun _ => ?_))
      | exact ih0 _ _ _ _ _
      | exact ih1 _ _ _ _ _ _ _ _ _
      | exact ih2 _ _ _ _ _ _ _ _ _ _ _ _ _ _ _ _
      | exact ih3 _ _ _ _ _ _ _ _ _ _ _ _ _ _ _ _
      | exact ih4 _ _ _ _ _ _ _ _ _ _
      | exact ih5 _ _ _ _ _ _ _ _ _ _ _ _
      | exact place_Plan.mono _ _ _ _ _
      | exact splicelaw12_awake.mono _
      | exact spliceref12_May.mono _ _ _ _
      | exact LeO.none _
      | refine LeO.ite ?_ ?_
      | refine LeO.bind ?_ (fun _ => ?_)
def splicelaw12_PlaceApart.Pure : Prop := ∀ (x0 : S25) (x1 : List Int), (W25 x0) → (x1.length * 8 ≤ 140737488351232 ∧ ∀ x_ ∈ x1, I64 x_) → ∃ k, splicelaw12_PlaceApart.f k x0.f0 x0.f1 x0.f2 x1 = some true
/-! ### splicelaw12_PlaceOrders: function 5 -/
mutual
def splicelaw12_PlaceOrders.j0 : Nat → Int → Bool → List (S42) → List (S39) → Int → Option (Bool)
  | 0, _, _, _, _, _ => none
  | k + 1, x1, x26, x261000, x261001, x261002 => if x26 = true then ((splicelaw12_awake.f k).bind fun t263 => (some t263)) else ((place_All.f k x261000 x261001 x261002).bind fun t264 => (if (t264.length : Int) = 0 then (none) else ((some (([] : List Int) : List Int)).bind fun y267 => (if 0 ≤ (Int.tmod (wrap64 (x1)) (t264.length : Int)) then (if (Int.tmod (wrap64 (x1)) (t264.length : Int)) ≤ (t264.length : Int) then ((some (t264.drop ((Int.tmod (wrap64 (x1)) (t264.length : Int)) : Int).toNat : List Int)).bind fun y270 => (if y267.length + y270.length < 17592186044416 then ((some (y267 ++ y270 : List Int)).bind fun y274 => ((some (t264.take ((Int.tmod (wrap64 (x1)) (t264.length : Int)) : Int).toNat : List Int)).bind fun y277 => (if y274.length + y277.length < 17592186044416 then ((some (y274 ++ y277 : List Int)).bind fun y281 => ((place_Plan.f k x261000 x261001 x261002 t264).bind fun bt284 => ((place_Plan.f k x261000 x261001 x261002 y281).bind fun bt295 => (if bt284.2.2.2.2.2 = bt295.2.2.2.2.2 then (if bt284.2.2.2.2.2 = 0 then (splicelaw12_PlaceOrders.l0 k y281 0 0 x261000 x261001 x261002 bt284.1 bt284.2.1 bt284.2.2.1 bt284.2.2.2.1 bt284.2.2.2.2.1 bt295.1 bt295.2.1 bt295.2.2.1 bt295.2.2.2.1 bt295.2.2.2.2.1) else (some true)) else (none))))) else (none)))) else (none))) else (none)) else (none)))))
def splicelaw12_PlaceOrders.l0 : Nat → List Int → Int → Int → List (S42) → List (S39) → Int → List Int → List Int → Int → Int → Int → List Int → List Int → Int → Int → Int → Option (Bool)
  | 0, _, _, _, _, _, _, _, _, _, _, _, _, _, _, _, _ => none
  | k + 1, x7, x12, x13, x261000, x261001, x261002, x295000, x295001, x295002, x295003, x295004, x306000, x306001, x306002, x306003, x306004 => if x13 < (x7.length : Int) then (if 0 ≤ x13 then (if 0 ≤ (rd x7 x13) then (if (rd x7 x13) < (x306000.length : Int) then (if (rd x306000 (rd x7 x13)) = x12 then (if (rd x7 x13) < (x261000.length : Int) then (splicelaw12_PlaceOrders.l0 k x7 (wrap64 (x12 + (((rd_T42 x261000 (rd x7 x13)).f3).length : Int))) (wrap64 (x13 + 1)) x261000 x261001 x261002 x295000 x295001 x295002 x295003 x295004 x306000 x306001 x306002 x306003 x306004) else (none)) else (none)) else (none)) else (none)) else (none)) else ((spliceref03_Ints.f k x295001 x306001).bind fun t310 => (if t310 = true then (if x295003 = x306003 then (if x295004 = x306004 then (some (x295002 == x306002)) else (none)) else (none)) else (none)))
end
def splicelaw12_PlaceOrders.f (k : Nat) (l0_0 : List (S42)) (l0_1 : List (S39)) (a0_2 : Int) (a1 : Int) : Option (Bool) := (splicelaw12_awake.f k).bind fun t261 => (if t261 = true then ((spliceref12_May.f k l0_0 l0_1 a0_2).bind fun t262 => (if t262 = true then (splicelaw12_PlaceOrders.j0 k a1 ((l0_0.length : Int) == 0) l0_0 l0_1 a0_2) else (splicelaw12_PlaceOrders.j0 k a1 true l0_0 l0_1 a0_2))) else (splicelaw12_PlaceOrders.j0 k a1 true l0_0 l0_1 a0_2))
theorem splicelaw12_PlaceOrders.mono_l : ∀ k, (∀ y0 y1 y2 y3 y4, LeO (splicelaw12_PlaceOrders.j0 k y0 y1 y2 y3 y4) (splicelaw12_PlaceOrders.j0 (k + 1) y0 y1 y2 y3 y4)) ∧ (∀ y0 y1 y2 y3 y4 y5 y6 y7 y8 y9 y10 y11 y12 y13 y14 y15, LeO (splicelaw12_PlaceOrders.l0 k y0 y1 y2 y3 y4 y5 y6 y7 y8 y9 y10 y11 y12 y13 y14 y15) (splicelaw12_PlaceOrders.l0 (k + 1) y0 y1 y2 y3 y4 y5 y6 y7 y8 y9 y10 y11 y12 y13 y14 y15))
  | 0 => ⟨fun _ _ _ _ _ r h => by simp [splicelaw12_PlaceOrders.j0] at h, fun _ _ _ _ _ _ _ _ _ _ _ _ _ _ _ _ r h => by simp [splicelaw12_PlaceOrders.l0] at h⟩
  | k + 1 => by
    obtain ⟨ih0, ih1⟩ := splicelaw12_PlaceOrders.mono_l k
    refine ⟨?_, ?_⟩
    · intro y0 y1 y2 y3 y4
      unfold splicelaw12_PlaceOrders.j0
      repeat' first
      | (with_reducible exact ih0 _ _ _ _ _)
      | (with_reducible exact ih1 _ _ _ _ _ _ _ _ _ _ _ _ _ _ _ _)
      | (with_reducible exact place_All.mono _ _ _ _)
      | (with_reducible exact place_Plan.mono _ _ _ _ _)
      | (with_reducible exact splicelaw12_awake.mono _)
      | (with_reducible exact spliceref03_Ints.mono _ _ _)
      | (with_reducible exact spliceref12_May.mono _ _ _ _)
      | (with_reducible exact LeO.refl _)
      | (with_reducible exact LeO.none _)
      | (with_reducible refine LeO.ite ?_ ?_)
      | (with_reducible refine LeO.bind ?_ (fun _ => ?_))
      | exact ih0 _ _ _ _ _
      | exact ih1 _ _ _ _ _ _ _ _ _ _ _ _ _ _ _ _
      | exact place_All.mono _ _ _ _
      | exact place_Plan.mono _ _ _ _ _
      | exact splicelaw12_awake.mono _
      | exact spliceref03_Ints.mono _ _ _
      | exact spliceref12_May.mono _ _ _ _
      | exact LeO.none _
      | refine LeO.ite ?_ ?_
      | refine LeO.bind ?_ (fun _ => ?_)
    · intro y0 y1 y2 y3 y4 y5 y6 y7 y8 y9 y10 y11 y12 y13 y14 y15
      unfold splicelaw12_PlaceOrders.l0
      repeat' first
      | (with_reducible exact ih0 _ _ _ _ _)
      | (with_reducible exact ih1 _ _ _ _ _ _ _ _ _ _ _ _ _ _ _ _)
      | (with_reducible exact place_All.mono _ _ _ _)
      | (with_reducible exact place_Plan.mono _ _ _ _ _)
      | (with_reducible exact splicelaw12_awake.mono _)
      | (with_reducible exact spliceref03_Ints.mono _ _ _)
      | (with_reducible exact spliceref12_May.mono _ _ _ _)
      | (with_reducible exact LeO.refl _)
      | (with_reducible exact LeO.none _)
      | (with_reducible refine LeO.ite ?_ ?_)
      | (with_reducible refine LeO.bind ?_ (fun _ => ?_))
      | exact ih0 _ _ _ _ _
      | exact ih1 _ _ _ _ _ _ _ _ _ _ _ _ _ _ _ _
      | exact place_All.mono _ _ _ _
      | exact place_Plan.mono _ _ _ _ _
      | exact splicelaw12_awake.mono _
      | exact spliceref03_Ints.mono _ _ _
      | exact spliceref12_May.mono _ _ _ _
      | exact LeO.none _
      | refine LeO.ite ?_ ?_
      | refine LeO.bind ?_ (fun _ => ?_)
theorem splicelaw12_PlaceOrders.mono : ∀ a0 a1 a2 a3 k, LeO (splicelaw12_PlaceOrders.f k a0 a1 a2 a3) (splicelaw12_PlaceOrders.f (k + 1) a0 a1 a2 a3) := by
  intro a0 a1 a2 a3 k
  obtain ⟨ih0, ih1⟩ := splicelaw12_PlaceOrders.mono_l k
  unfold splicelaw12_PlaceOrders.f
  repeat' first
      | (with_reducible exact ih0 _ _ _ _ _)
      | (with_reducible exact ih1 _ _ _ _ _ _ _ _ _ _ _ _ _ _ _ _)
      | (with_reducible exact place_All.mono _ _ _ _)
      | (with_reducible exact place_Plan.mono _ _ _ _ _)
      | (with_reducible exact splicelaw12_awake.mono _)
      | (with_reducible exact spliceref03_Ints.mono _ _ _)
      | (with_reducible exact spliceref12_May.mono _ _ _ _)
      | (with_reducible exact LeO.refl _)
      | (with_reducible exact LeO.none _)
      | (with_reducible refine LeO.ite ?_ ?_)
      | (with_reducible refine LeO.bind ?_ (fun _ => ?_))
      | exact ih0 _ _ _ _ _
      | exact ih1 _ _ _ _ _ _ _ _ _ _ _ _ _ _ _ _
      | exact place_All.mono _ _ _ _
      | exact place_Plan.mono _ _ _ _ _
      | exact splicelaw12_awake.mono _
      | exact spliceref03_Ints.mono _ _ _
      | exact spliceref12_May.mono _ _ _ _
      | exact LeO.none _
      | refine LeO.ite ?_ ?_
      | refine LeO.bind ?_ (fun _ => ?_)
def splicelaw12_PlaceOrders.Pure : Prop := ∀ (x0 : S25) (x1 : Int), (W25 x0) → (U8 x1) → ∃ k, splicelaw12_PlaceOrders.f k x0.f0 x0.f1 x0.f2 x1 = some true
/-! ### splicelaw12_PlaceKeeps: function 6 -/
mutual
def splicelaw12_PlaceKeeps.j0 : Nat → Bool → List (S42) → List (S39) → Int → Option (Bool)
  | 0, _, _, _, _ => none
  | k + 1, x19, x312000, x312001, x312002 => if x19 = true then ((splicelaw12_awake.f k).bind fun t314 => (some t314)) else ((place_All.f k x312000 x312001 x312002).bind fun t315 => ((some (([] : List Int) : List Int)).bind fun y318 => (if y318.length + t315.length < 17592186044416 then ((place_Plan.f k x312000 x312001 x312002 t315).bind fun bt324 => (splicelaw12_PlaceKeeps.l0 k t315 (y318 ++ t315) bt324.2.2.2.2.2 0 x312000 x312001 x312002 bt324.1 bt324.2.1 bt324.2.2.1 bt324.2.2.2.1 bt324.2.2.2.2.1)) else (none))))
def splicelaw12_PlaceKeeps.l0 : Nat → List Int → List Int → Int → Int → List (S42) → List (S39) → Int → List Int → List Int → Int → Int → Int → Option (Bool)
  | 0, _, _, _, _, _, _, _, _, _, _, _, _ => none
  | k + 1, x3, x4, x6, x7, x312000, x312001, x312002, x335000, x335001, x335002, x335003, x335004 => if x7 < (x335000.length : Int) then (if 0 ≤ x7 then (splicelaw12_PlaceKeeps.l0 k x3 x4 x6 (wrap64 (x7 + 1)) x312000 x312001 x312002 (x335000.set (x7 : Int).toNat (-9)) x335001 x335002 x335003 x335004) else (none)) else (splicelaw12_PlaceKeeps.l1 k x3 x4 x6 0 x312000 x312001 x312002 x335000 x335001 x335002 x335003 x335004)
def splicelaw12_PlaceKeeps.l1 : Nat → List Int → List Int → Int → Int → List (S42) → List (S39) → Int → List Int → List Int → Int → Int → Int → Option (Bool)
  | 0, _, _, _, _, _, _, _, _, _, _, _, _ => none
  | k + 1, x3, x4, x6, x8, x312000, x312001, x312002, x335000, x335001, x335002, x335003, x335004 => if x8 < (x335001.length : Int) then (if 0 ≤ x8 then (splicelaw12_PlaceKeeps.l1 k x3 x4 x6 (wrap64 (x8 + 1)) x312000 x312001 x312002 x335000 (x335001.set (x8 : Int).toNat (-9)) x335002 x335003 x335004) else (none)) else ((place_Plan.f k x312000 x312001 x312002 x3).bind fun bt337 => ((spliceref12_Plan.f k x312000 x312001 x312002 x3).bind fun bt348 => ((spliceref03_Ints.f k x3 x4).bind fun t359 => (if t359 = true then (if x6 = bt337.2.2.2.2.2 then ((spliceref12_Same.f k bt337.1 bt337.2.1 bt337.2.2.1 bt337.2.2.2.1 bt337.2.2.2.2.1 bt348.1 bt348.2.1 bt348.2.2.1 bt348.2.2.2.1 bt348.2.2.2.2.1).bind fun t360 => (some t360)) else (none)) else (none)))))
end
def splicelaw12_PlaceKeeps.f (k : Nat) (l0_0 : List (S42)) (l0_1 : List (S39)) (a0_2 : Int) : Option (Bool) := (splicelaw12_awake.f k).bind fun t312 => (if t312 = true then ((spliceref12_May.f k l0_0 l0_1 a0_2).bind fun t313 => (splicelaw12_PlaceKeeps.j0 k (!t313) l0_0 l0_1 a0_2)) else (splicelaw12_PlaceKeeps.j0 k true l0_0 l0_1 a0_2))
theorem splicelaw12_PlaceKeeps.mono_l : ∀ k, (∀ y0 y1 y2 y3, LeO (splicelaw12_PlaceKeeps.j0 k y0 y1 y2 y3) (splicelaw12_PlaceKeeps.j0 (k + 1) y0 y1 y2 y3)) ∧ (∀ y0 y1 y2 y3 y4 y5 y6 y7 y8 y9 y10 y11, LeO (splicelaw12_PlaceKeeps.l0 k y0 y1 y2 y3 y4 y5 y6 y7 y8 y9 y10 y11) (splicelaw12_PlaceKeeps.l0 (k + 1) y0 y1 y2 y3 y4 y5 y6 y7 y8 y9 y10 y11)) ∧ (∀ y0 y1 y2 y3 y4 y5 y6 y7 y8 y9 y10 y11, LeO (splicelaw12_PlaceKeeps.l1 k y0 y1 y2 y3 y4 y5 y6 y7 y8 y9 y10 y11) (splicelaw12_PlaceKeeps.l1 (k + 1) y0 y1 y2 y3 y4 y5 y6 y7 y8 y9 y10 y11))
  | 0 => ⟨fun _ _ _ _ r h => by simp [splicelaw12_PlaceKeeps.j0] at h, fun _ _ _ _ _ _ _ _ _ _ _ _ r h => by simp [splicelaw12_PlaceKeeps.l0] at h, fun _ _ _ _ _ _ _ _ _ _ _ _ r h => by simp [splicelaw12_PlaceKeeps.l1] at h⟩
  | k + 1 => by
    obtain ⟨ih0, ih1, ih2⟩ := splicelaw12_PlaceKeeps.mono_l k
    refine ⟨?_, ?_, ?_⟩
    · intro y0 y1 y2 y3
      unfold splicelaw12_PlaceKeeps.j0
      repeat' first
      | (with_reducible exact ih0 _ _ _ _)
      | (with_reducible exact ih1 _ _ _ _ _ _ _ _ _ _ _ _)
      | (with_reducible exact ih2 _ _ _ _ _ _ _ _ _ _ _ _)
      | (with_reducible exact place_All.mono _ _ _ _)
      | (with_reducible exact place_Plan.mono _ _ _ _ _)
      | (with_reducible exact splicelaw12_awake.mono _)
      | (with_reducible exact spliceref03_Ints.mono _ _ _)
      | (with_reducible exact spliceref12_May.mono _ _ _ _)
      | (with_reducible exact spliceref12_Plan.mono _ _ _ _ _)
      | (with_reducible exact spliceref12_Same.mono _ _ _ _ _ _ _ _ _ _ _)
      | (with_reducible exact LeO.refl _)
      | (with_reducible exact LeO.none _)
      | (with_reducible refine LeO.ite ?_ ?_)
      | (with_reducible refine LeO.bind ?_ (fun _ => ?_))
      | exact ih0 _ _ _ _
      | exact ih1 _ _ _ _ _ _ _ _ _ _ _ _
      | exact ih2 _ _ _ _ _ _ _ _ _ _ _ _
      | exact place_All.mono _ _ _ _
      | exact place_Plan.mono _ _ _ _ _
      | exact splicelaw12_awake.mono _
      | exact spliceref03_Ints.mono _ _ _
      | exact spliceref12_May.mono _ _ _ _
      | exact spliceref12_Plan.mono _ _ _ _ _
      | exact spliceref12_Same.mono _ _ _ _ _ _ _ _ _ _ _
      | exact LeO.none _
      | refine LeO.ite ?_ ?_
      | refine LeO.bind ?_ (fun _ => ?_)
    · intro y0 y1 y2 y3 y4 y5 y6 y7 y8 y9 y10 y11
      unfold splicelaw12_PlaceKeeps.l0
      repeat' first
      | (with_reducible exact ih0 _ _ _ _)
      | (with_reducible exact ih1 _ _ _ _ _ _ _ _ _ _ _ _)
      | (with_reducible exact ih2 _ _ _ _ _ _ _ _ _ _ _ _)
      | (with_reducible exact place_All.mono _ _ _ _)
      | (with_reducible exact place_Plan.mono _ _ _ _ _)
      | (with_reducible exact splicelaw12_awake.mono _)
      | (with_reducible exact spliceref03_Ints.mono _ _ _)
      | (with_reducible exact spliceref12_May.mono _ _ _ _)
      | (with_reducible exact spliceref12_Plan.mono _ _ _ _ _)
      | (with_reducible exact spliceref12_Same.mono _ _ _ _ _ _ _ _ _ _ _)
      | (with_reducible exact LeO.refl _)
      | (with_reducible exact LeO.none _)
      | (with_reducible refine LeO.ite ?_ ?_)
      | (with_reducible refine LeO.bind ?_ (fun _ => ?_))
      | exact ih0 _ _ _ _
      | exact ih1 _ _ _ _ _ _ _ _ _ _ _ _
      | exact ih2 _ _ _ _ _ _ _ _ _ _ _ _
      | exact place_All.mono _ _ _ _
      | exact place_Plan.mono _ _ _ _ _
      | exact splicelaw12_awake.mono _
      | exact spliceref03_Ints.mono _ _ _
      | exact spliceref12_May.mono _ _ _ _
      | exact spliceref12_Plan.mono _ _ _ _ _
      | exact spliceref12_Same.mono _ _ _ _ _ _ _ _ _ _ _
      | exact LeO.none _
      | refine LeO.ite ?_ ?_
      | refine LeO.bind ?_ (fun _ => ?_)
    · intro y0 y1 y2 y3 y4 y5 y6 y7 y8 y9 y10 y11
      unfold splicelaw12_PlaceKeeps.l1
      repeat' first
      | (with_reducible exact ih0 _ _ _ _)
      | (with_reducible exact ih1 _ _ _ _ _ _ _ _ _ _ _ _)
      | (with_reducible exact ih2 _ _ _ _ _ _ _ _ _ _ _ _)
      | (with_reducible exact place_All.mono _ _ _ _)
      | (with_reducible exact place_Plan.mono _ _ _ _ _)
      | (with_reducible exact splicelaw12_awake.mono _)
      | (with_reducible exact spliceref03_Ints.mono _ _ _)
      | (with_reducible exact spliceref12_May.mono _ _ _ _)
      | (with_reducible exact spliceref12_Plan.mono _ _ _ _ _)
      | (with_reducible exact spliceref12_Same.mono _ _ _ _ _ _ _ _ _ _ _)
      | (with_reducible exact LeO.refl _)
      | (with_reducible exact LeO.none _)
      | (with_reducible refine LeO.ite ?_ ?_)
      | (with_reducible refine LeO.bind ?_ (fun _ => ?_))
      | exact ih0 _ _ _ _
      | exact ih1 _ _ _ _ _ _ _ _ _ _ _ _
      | exact ih2 _ _ _ _ _ _ _ _ _ _ _ _
      | exact place_All.mono _ _ _ _
      | exact place_Plan.mono _ _ _ _ _
      | exact splicelaw12_awake.mono _
      | exact spliceref03_Ints.mono _ _ _
      | exact spliceref12_May.mono _ _ _ _
      | exact spliceref12_Plan.mono _ _ _ _ _
      | exact spliceref12_Same.mono _ _ _ _ _ _ _ _ _ _ _
      | exact LeO.none _
      | refine LeO.ite ?_ ?_
      | refine LeO.bind ?_ (fun _ => ?_)
theorem splicelaw12_PlaceKeeps.mono : ∀ a0 a1 a2 k, LeO (splicelaw12_PlaceKeeps.f k a0 a1 a2) (splicelaw12_PlaceKeeps.f (k + 1) a0 a1 a2) := by
  intro a0 a1 a2 k
  obtain ⟨ih0, ih1, ih2⟩ := splicelaw12_PlaceKeeps.mono_l k
  unfold splicelaw12_PlaceKeeps.f
  repeat' first
      | (with_reducible exact ih0 _ _ _ _)
      | (with_reducible exact ih1 _ _ _ _ _ _ _ _ _ _ _ _)
      | (with_reducible exact ih2 _ _ _ _ _ _ _ _ _ _ _ _)
      | (with_reducible exact place_All.mono _ _ _ _)
      | (with_reducible exact place_Plan.mono _ _ _ _ _)
      | (with_reducible exact splicelaw12_awake.mono _)
      | (with_reducible exact spliceref03_Ints.mono _ _ _)
      | (with_reducible exact spliceref12_May.mono _ _ _ _)
      | (with_reducible exact spliceref12_Plan.mono _ _ _ _ _)
      | (with_reducible exact spliceref12_Same.mono _ _ _ _ _ _ _ _ _ _ _)
      | (with_reducible exact LeO.refl _)
      | (with_reducible exact LeO.none _)
      | (with_reducible refine LeO.ite ?_ ?_)
      | (with_reducible refine LeO.bind ?_ (fun _ => ?_))
      | exact ih0 _ _ _ _
      | exact ih1 _ _ _ _ _ _ _ _ _ _ _ _
      | exact ih2 _ _ _ _ _ _ _ _ _ _ _ _
      | exact place_All.mono _ _ _ _
      | exact place_Plan.mono _ _ _ _ _
      | exact splicelaw12_awake.mono _
      | exact spliceref03_Ints.mono _ _ _
      | exact spliceref12_May.mono _ _ _ _
      | exact spliceref12_Plan.mono _ _ _ _ _
      | exact spliceref12_Same.mono _ _ _ _ _ _ _ _ _ _ _
      | exact LeO.none _
      | refine LeO.ite ?_ ?_
      | refine LeO.bind ?_ (fun _ => ?_)
def splicelaw12_PlaceKeeps.Pure : Prop := ∀ (x0 : S25), (W25 x0) → ∃ k, splicelaw12_PlaceKeeps.f k x0.f0 x0.f1 x0.f2 = some true
/-! ### splicelaw12_PlaceMore: function 7 -/
mutual
def splicelaw12_PlaceMore.j0 : Nat → Int → Int → Bool → List (S42) → List (S39) → Int → Option (Bool)
  | 0, _, _, _, _, _, _ => none
  | k + 1, x1, x2, x25, x362000, x362001, x362002 => if x25 = true then ((splicelaw12_awake.f k).bind fun t364 => (some t364)) else ((some (([] : List (S39)) : List (S39))).bind fun y366 => (if y366.length + x362001.length < 1954687338268 then ((some (y366 ++ x362001 : List (S39))).bind fun y369 => ((some (([1, 2, 4, 8, 16] : List Int) : List Int)).bind fun y372 => (if 0 ≤ (Int.tmod x2 5) then (if (Int.tmod x2 5) < (y372.length : Int) then ((some (([(⟨rd y372 (Int.tmod x2 5), false, wrap64 (1 + (wrap64 (x1))), ([] : List Int), ([] : List (S71))⟩ : S39)] : List (S39)) : List (S39))).bind fun y376 => (if y369.length + y376.length < 1954687338268 then ((some (y369 ++ y376 : List (S39))).bind fun y379 => ((place_All.f k x362000 x362001 x362002).bind fun t382 => ((place_Plan.f k x362000 x362001 x362002 t382).bind fun bt385 => ((place_All.f k x362000 y379 x362002).bind fun t396 => ((place_Plan.f k x362000 y379 x362002 t396).bind fun bt399 => (if bt385.2.2.2.2.2 = 0 then (splicelaw12_PlaceMore.j1 k x1 bt385.2.2.2.2.2 bt399.2.2.2.2.2 (bt399.2.2.2.2.2 != 0) x362000 x362001 x362002 bt385.1 bt385.2.1 bt385.2.2.1 bt385.2.2.2.1 bt385.2.2.2.2.1 bt399.1 bt399.2.1 bt399.2.2.1 bt399.2.2.2.1 bt399.2.2.2.2.1) else (splicelaw12_PlaceMore.j1 k x1 bt385.2.2.2.2.2 bt399.2.2.2.2.2 true x362000 x362001 x362002 bt385.1 bt385.2.1 bt385.2.2.1 bt385.2.2.2.1 bt385.2.2.2.2.1 bt399.1 bt399.2.1 bt399.2.2.1 bt399.2.2.2.1 bt399.2.2.2.2.1))))))) else (none))) else (none)) else (none)))) else (none)))
def splicelaw12_PlaceMore.j1 : Nat → Int → Int → Int → Bool → List (S42) → List (S39) → Int → List Int → List Int → Int → Int → Int → List Int → List Int → Int → Int → Int → Option (Bool)
  | 0, _, _, _, _, _, _, _, _, _, _, _, _, _, _, _, _, _ => none
  | k + 1, x1, x9, x11, x63, x362000, x362001, x362002, x396000, x396001, x396002, x396003, x396004, x410000, x410001, x410002, x410003, x410004 => if x63 = true then (if x9 = 0 then (some (x11 == 8)) else (some true)) else (if 0 ≤ (x362001.length : Int) then (if (x362001.length : Int) ≤ (x410001.length : Int) then ((spliceref03_Ints.f k x396001 (x410001.take ((x362001.length : Int) : Int).toNat)).bind fun t415 => (if t415 = true then (if x396004 = x410004 then (if (x362001.length : Int) < (x410001.length : Int) then (if (rd x410001 (x362001.length : Int)) ≥ x396003 then (if x410003 = (wrap64 ((wrap64 ((rd x410001 (x362001.length : Int)) + 1)) + (wrap64 (x1)))) then ((spliceref03_Ints.f k x396000 x410000).bind fun t418 => (some t418)) else (none)) else (none)) else (none)) else (none)) else (none))) else (none)) else (none))
end
def splicelaw12_PlaceMore.f (k : Nat) (l0_0 : List (S42)) (l0_1 : List (S39)) (a0_2 : Int) (a1 : Int) (a2 : Int) : Option (Bool) := (splicelaw12_awake.f k).bind fun t362 => (if t362 = true then ((spliceref12_May.f k l0_0 l0_1 a0_2).bind fun t363 => (if t363 = true then (splicelaw12_PlaceMore.j0 k a1 a2 ((l0_0.length : Int) == 0) l0_0 l0_1 a0_2) else (splicelaw12_PlaceMore.j0 k a1 a2 true l0_0 l0_1 a0_2))) else (splicelaw12_PlaceMore.j0 k a1 a2 true l0_0 l0_1 a0_2))
theorem splicelaw12_PlaceMore.mono_l : ∀ k, (∀ y0 y1 y2 y3 y4 y5, LeO (splicelaw12_PlaceMore.j0 k y0 y1 y2 y3 y4 y5) (splicelaw12_PlaceMore.j0 (k + 1) y0 y1 y2 y3 y4 y5)) ∧ (∀ y0 y1 y2 y3 y4 y5 y6 y7 y8 y9 y10 y11 y12 y13 y14 y15 y16, LeO (splicelaw12_PlaceMore.j1 k y0 y1 y2 y3 y4 y5 y6 y7 y8 y9 y10 y11 y12 y13 y14 y15 y16) (splicelaw12_PlaceMore.j1 (k + 1) y0 y1 y2 y3 y4 y5 y6 y7 y8 y9 y10 y11 y12 y13 y14 y15 y16))
  | 0 => ⟨fun _ _ _ _ _ _ r h => by simp [splicelaw12_PlaceMore.j0] at h, fun _ _ _ _ _ _ _ _ _ _ _ _ _ _ _ _ _ r h => by simp [splicelaw12_PlaceMore.j1] at h⟩
  | k + 1 => by
    obtain ⟨ih0, ih1⟩ := splicelaw12_PlaceMore.mono_l k
    refine ⟨?_, ?_⟩
    · intro y0 y1 y2 y3 y4 y5
      unfold splicelaw12_PlaceMore.j0
      repeat' first
      | (with_reducible exact ih0 _ _ _ _ _ _)
      | (with_reducible exact ih1 _ _ _ _ _ _ _ _ _ _ _ _ _ _ _ _ _)
      | (with_reducible exact place_All.mono _ _ _ _)
      | (with_reducible exact place_Plan.mono _ _ _ _ _)
      | (with_reducible exact splicelaw12_awake.mono _)
      | (with_reducible exact spliceref03_Ints.mono _ _ _)
      | (with_reducible exact spliceref12_May.mono _ _ _ _)
      | (with_reducible exact LeO.refl _)
      | (with_reducible exact LeO.none _)
      | (with_reducible refine LeO.ite ?_ ?_)
      | (with_reducible refine LeO.bind ?_ (fun _ => ?_))
      | exact ih0 _ _ _ _ _ _
      | exact ih1 _ _ _ _ _ _ _ _ _ _ _ _ _ _ _ _ _
      | exact place_All.mono _ _ _ _
      | exact place_Plan.mono _ _ _ _ _
      | exact splicelaw12_awake.mono _
      | exact spliceref03_Ints.mono _ _ _
      | exact spliceref12_May.mono _ _ _ _
      | exact LeO.none _
      | refine LeO.ite ?_ ?_
      | refine LeO.bind ?_ (fun _ => ?_)
    · intro y0 y1 y2 y3 y4 y5 y6 y7 y8 y9 y10 y11 y12 y13 y14 y15 y16
      unfold splicelaw12_PlaceMore.j1
      repeat' first
      | (with_reducible exact ih0 _ _ _ _ _ _)
      | (with_reducible exact ih1 _ _ _ _ _ _ _ _ _ _ _ _ _ _ _ _ _)
      | (with_reducible exact place_All.mono _ _ _ _)
      | (with_reducible exact place_Plan.mono _ _ _ _ _)
      | (with_reducible exact splicelaw12_awake.mono _)
      | (with_reducible exact spliceref03_Ints.mono _ _ _)
      | (with_reducible exact spliceref12_May.mono _ _ _ _)
      | (with_reducible exact LeO.refl _)
      | (with_reducible exact LeO.none _)
      | (with_reducible refine LeO.ite ?_ ?_)
      | (with_reducible refine LeO.bind ?_ (fun _ => ?_))
      | exact ih0 _ _ _ _ _ _
      | exact ih1 _ _ _ _ _ _ _ _ _ _ _ _ _ _ _ _ _
      | exact place_All.mono _ _ _ _
      | exact place_Plan.mono _ _ _ _ _
      | exact splicelaw12_awake.mono _
      | exact spliceref03_Ints.mono _ _ _
      | exact spliceref12_May.mono _ _ _ _
      | exact LeO.none _
      | refine LeO.ite ?_ ?_
      | refine LeO.bind ?_ (fun _ => ?_)
theorem splicelaw12_PlaceMore.mono : ∀ a0 a1 a2 a3 a4 k, LeO (splicelaw12_PlaceMore.f k a0 a1 a2 a3 a4) (splicelaw12_PlaceMore.f (k + 1) a0 a1 a2 a3 a4) := by
  intro a0 a1 a2 a3 a4 k
  obtain ⟨ih0, ih1⟩ := splicelaw12_PlaceMore.mono_l k
  unfold splicelaw12_PlaceMore.f
  repeat' first
      | (with_reducible exact ih0 _ _ _ _ _ _)
      | (with_reducible exact ih1 _ _ _ _ _ _ _ _ _ _ _ _ _ _ _ _ _)
      | (with_reducible exact place_All.mono _ _ _ _)
      | (with_reducible exact place_Plan.mono _ _ _ _ _)
      | (with_reducible exact splicelaw12_awake.mono _)
      | (with_reducible exact spliceref03_Ints.mono _ _ _)
      | (with_reducible exact spliceref12_May.mono _ _ _ _)
      | (with_reducible exact LeO.refl _)
      | (with_reducible exact LeO.none _)
      | (with_reducible refine LeO.ite ?_ ?_)
      | (with_reducible refine LeO.bind ?_ (fun _ => ?_))
      | exact ih0 _ _ _ _ _ _
      | exact ih1 _ _ _ _ _ _ _ _ _ _ _ _ _ _ _ _ _
      | exact place_All.mono _ _ _ _
      | exact place_Plan.mono _ _ _ _ _
      | exact splicelaw12_awake.mono _
      | exact spliceref03_Ints.mono _ _ _
      | exact spliceref12_May.mono _ _ _ _
      | exact LeO.none _
      | refine LeO.ite ?_ ?_
      | refine LeO.bind ?_ (fun _ => ?_)
def splicelaw12_PlaceMore.Pure : Prop := ∀ (x0 : S25) (x1 : Int) (x2 : Int), (W25 x0) → (U8 x1) → (U8 x2) → ∃ k, splicelaw12_PlaceMore.f k x0.f0 x0.f1 x0.f2 x1 x2 = some true

end Go.Proofs.Ytddggnfbplekhaa.Q
